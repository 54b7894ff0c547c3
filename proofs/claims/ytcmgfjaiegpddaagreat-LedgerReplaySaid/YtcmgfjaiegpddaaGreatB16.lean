/- Lemmas. -/
import Derived.Test.YtcmgfjaiegpddaaGreatB14
import Derived.Test.YtcmgfjaiegpddaaGreatB15
set_option linter.all false
set_option maxRecDepth 100000
set_option maxHeartbeats 4000000
noncomputable section
namespace Go.Proofs.Led
open Go Go.Proofs Go.Ab Tryz
def nN{α:Type}(l:List α)(i:Nat):List α:=l.take i++l.drop (i+1)
def bK1(l:List aN)(i:Nat)(hi:i<l.length)(hl:l.length<=1000000000):Sp 123 [.own 90 (l.map aQ),I i,I ((i:Int)+1)] (.own 90 ((nN l i).map aQ)):=by
 have h:=dL5 (l.map aQ) i (by simpa using hi) AQ;unfold nN;rw[Qa,SB,List.map_drop];exact h
def aX4(s:aJ)(k:Nat)(m:aN):aJ:={stocks:=nN s.stocks k,pieces:=s.pieces,used:=s.used,received:=s.received,scrap:=plus m.isBar s.scrap (gG m)}
def cG4(s:aJ)(e:Event)(m:aN)(c:Gd s)(o:∃m∈s.stocks,sid m=e.id)(f:s.stocks[bs sid s.stocks e.id]? =some m)(r:m.program=aI)(g:eY m):
 jR T Tryz.prog Tryz.f75 [.box 100000 0,aS e] [stC s] (I 0) [stC (aX4 s (bs sid s.stocks e.id) m)] :=by
 have h1:=find_spec s e.id c;have a:=(Pg.1 f).1;have d:(s.stocks.map aQ).length=s.stocks.length:=Af;have q:=c.ls;have j:=bK1 s.stocks (bs sid s.stocks e.id) a Aa;have l:=oL m.isBar;have n:=vF m g;unfold aX4;generalize bs sid s.stocks e.id=k at*;generalize (∃m∈s.stocks,sid m=e.id)=P at*;generalize nN s.stocks k=L at*;generalize gG m=z at*;unfold plus;obtain⟨b,t,i,p⟩:=m;cases b
 ·exact IL
 ·exact IL
def bM1(s:aJ)(e:Event)(m:aN)(d:Gd s)(a:∃m∈s.stocks,sid m=e.id)(b:s.stocks[bs sid s.stocks e.id]? =some m)(c:m.program=aI)(f:eY m):
 SpB 75 [.box 100000 0,aS e] [stC s] (I 0) [stC (aX4 s (bs sid s.stocks e.id) m)] :=
 b_of func75 Ac Ac rfl rfl (cG4 s e m d a b c f)
def cN0(s:aJ)(e:Event)(m:aN)(d:Gd s)(f:∃m∈s.stocks,sid m=e.id)(c:s.stocks[bs sid s.stocks e.id]? =some m)(g:m.program≠aI):
 jR T Tryz.prog Tryz.f75 [.box 100000 0,aS e] [stC s] (I 27) [bots] :=by
 have h1:=find_spec s e.id d;have a:=(Pg.1 c).1;have b:(s.stocks.map aQ).length=s.stocks.length:=Af;exact Lu
def bO0(s:aJ)(e:Event)(m:aN)(d:Gd s)(a:∃m∈s.stocks,sid m=e.id)(b:s.stocks[bs sid s.stocks e.id]? =some m)(c:m.program≠aI):
 SpB 75 [.box 100000 0,aS e] [stC s] (I 27) [bots] :=
 b_of func75 Ac Ac rfl rfl (cN0 s e m d a b c)
def cE2(s:aJ)(e:Event)(hs:Gd s)(a:¬∃m∈s.stocks,sid m=e.id):
 jR T Tryz.prog Tryz.f75 [.box 100000 0,aS e] [stC s] (I 8) [bots] :=by
 exact LC
def bO2(s:aJ)(e:Event)(b:Gd s)(a:¬∃m∈s.stocks,sid m=e.id):
 SpB 75 [.box 100000 0,aS e] [stC s] (I 8) [bots] :=
 b_of func75 Ac Ac rfl rfl (cE2 s e b a)
def bM6(s:jL):Sp 25 [zJ s] (DB (pJ s)):=by
 refine zsp func25 ?_;have a:pJ s↔s.id=0/\s.grade=aI/\s.heat=aI/\s.grain=0/\s.shape.outer.length=0/\s.shape.holes.length=0/\s.defects.length=0:=Qn;generalize pJ s=P at*;have d:(s.shape.outer.map vcV).length=s.shape.outer.length:=Af;have e:(s.shape.holes.map rgV).length=s.shape.holes.length:=Af;have f:(s.defects.map shV).length=s.defects.length:=Af;repeat' ((conv=>whnf);first|refine jI (λb=>?_) (λb=>?_)|refine zS ?_|refine zm (λx c=>?_)|refine zT ?_ ?_<;>intro _|fail)
 all_goals conv=>whnf
 all_goals first
  |exact aA (sK ⟨λh=>a.2 ⟨Aa,Ah,Ah,Aa,Aa,Aa,Aa⟩,λh=>by have:=(a.1 h).2.2.2.2.2.2;omega⟩)
  |exact aA (aC (λh=>by have:=(a.1 h);omega))
  |exact aA (aC (λh=>absurd (a.1 h).2.1 Ah))
  |exact aA (aC (λh=>absurd (a.1 h).2.2.1 Ah))
def aX9{s:jL}(h:dB s):lK s:=⟨iT h.2.2.2.1.1,by have:=h.2.2.2.2.1;omega,λd a=>iT (h.2.2.2.2.2.2.2 d a).1.1⟩
def bU7(c:Made):Prop:=nC c.id/\iM c.part/\1<=c.size
def bR4(r:Rest):Prop:=nC r.id/\(r.box=bx0\/(r.lo=0/\r.hi=0))
def nY(e:Event):Prop:=(∀c∈e.cuts,bU7 c)/\(∀r∈e.rests,bR4 r)/\e.cuts.length<=60/\e.rests.length<=6/\0<=e.scrap/\e.text=aI
structure iY(e:Event):Prop where
 sh:tN e.sheet
 br:e.bar.defects.length<=1000000
 ct:e.cuts.length<=1000000
 rs:e.rests.length<=1000000
def bL8(e:Event)(q:iY e):Sp 64 [aS e] (DB (nY e)):=by
 refine zsp func64 ?_;have l:(e.cuts.map dK).length=e.cuts.length:=Af;have m:(e.rests.map bY).length=e.rests.length:=Af;have y:=q.ct;have v:=q.rs;have j:nY e↔(∀c∈e.cuts,bU7 c)/\(∀r∈e.rests,bR4 r)/\e.cuts.length<=60/\e.rests.length<=6/\0<=e.scrap/\e.text=aI:=Qn;generalize nY e=P at*;repeat' ((conv=>whnf);first|refine zS ?_|fail)
 refine aU (A:=List Made) (B:=List Made) (λD R=>mkSt [(1, .box 1 0),(8, .sl (e.cuts.map dK)),(9,I e.cuts.length),(10,I D.length)] [(1,iJ e)] []) (λD R=>e.cuts=D++R/\∀c∈D,bU7 c) (λD R=>R.length) [] e.cuts ?_ ⟨rfl,Af⟩ (λD R hp=>?_)
 ·refine dV ?_ ?_ ?_ ?_
  all_goals repeat' (first|exact trivial|refine And.intro ?_ ?_|with_reducible rfl|exact(λh=>Ag)|exact Po _|omega|exact rfl)
  all_goals (try rw[l])
 obtain⟨hp,k⟩:=hp;cases R with
 |cons c R=>
  have i:=aO hp;have s:=aW0 c.id;have x:=aG6 c.part;have d:c∈e.cuts:=Ad;have g:bU7 c↔nC c.id/\iM c.part/\1<=c.size:=Qn;generalize nC c.id=w at*;generalize iM c.part=C at*;repeat' ((conv=>whnf);first|omega|refine zS ?_|refine zT ?_ ?_<;>intro _|fail)
  all_goals conv=>whnf
  all_goals first
   |exact aA (aC (λh=>absurd (g.1 ((j.1 h).1 c d)).1 Ah))
   |exact aA (aC (λh=>absurd (g.1 ((j.1 h).1 c d)).2.1 Ah))
   |exact aA (aC (λh=>by have:=(g.1 ((j.1 h).1 c d)).2.2;omega))
   |skip
  refine⟨(D++[c],R),?_,⟨Ad,λz f=>?_⟩,Af⟩;exact Ih;rcases Pv.1 f with f|f;exact k z f;rw[Py.1 f];exact g.2 ⟨Ah,Ah,Aa⟩
 |nil=>
  have i:e.cuts.length=D.length:=Ad;have t:∀c∈e.cuts,bU7 c:=λc h=>k c Cc;clear k hp;repeat' ((conv=>whnf);first|omega|refine zS ?_|refine zT ?_ ?_<;>intro _|fail)
  refine aU (A:=List Rest) (B:=List Rest) (λD R=>mkSt [(1, .box 1 0),(31, .sl (e.rests.map bY)),(32,I e.rests.length),(33,I D.length)] [(1,iJ e)] []) (λD R=>e.rests=D++R/\∀c∈D,bR4 c) (λD R=>R.length) [] e.rests ?_ ⟨rfl,Af⟩ (λD R hp=>?_)
  ·refine dV ?_ ?_ ?_ ?_
   all_goals repeat' (first|exact trivial|refine And.intro ?_ ?_|with_reducible rfl|exact(λh=>Ag)|exact Po _|omega|exact rfl)
   all_goals (try rw[m])
  obtain⟨hp,k⟩:=hp;cases R with
  |cons c R=>
   have i:=aO hp;have s:=aW0 c.id;have d:c∈e.rests:=Ad;have g:bR4 c↔nC c.id/\(c.box=bx0\/(c.lo=0/\c.hi=0)):=Qn;generalize nC c.id=w at*;repeat' ((conv=>whnf);first|omega|refine cC5 ?_|refine cA4 (a:=c.box) (b:=bx0) (λhv=>?_) (λhv=>?_)|refine zS ?_|refine zT ?_ ?_<;>intro _|fail)
   all_goals conv=>whnf
   all_goals first
    |exact aA (aC (λh=>absurd (g.1 ((j.1 h).2.1 c d)).1 Ah))
    |exact aA (aC (λh=>by rcases(g.1 ((j.1 h).2.1 c d)).2 with o|o;exact absurd o (by assumption);omega))
    |skip
   all_goals refine⟨(D++[c],R),?_,⟨Ad,λz f=>?_⟩,Af⟩
   all_goals first
    |(rcases Pv.1 f with f|f
      ·exact k z f
      ·rw[Py.1 f]
       first
        |exact g.2 ⟨Ah, .inl Ah⟩
        |exact g.2 ⟨Ah, .inr ⟨Aa,Aa⟩⟩)
    |skip
   all_goals simp only[OY,PL]
   exact zj;exact zj
  |nil=>
   have n:e.rests.length=D.length:=Ad;have u:∀c∈e.rests,bR4 c:=λc h=>k c Cc;clear k hp;repeat' ((conv=>whnf);first|omega|refine zS ?_|refine zT ?_ ?_<;>intro _|fail)
   all_goals conv=>whnf
   all_goals first
    |exact aA (aC (λh=>by have:=j.1 h;omega))
    |exact aA (qV ⟨λh=>j.2 ⟨t,u,Aa,Aa,Aa,h⟩,λh=>(j.1 h).2.2.2.2.2⟩)
def iD(e:Event):Prop:=
 ((e.kind=1\/e.kind=2)->e.id=0/\e.text=aI)/\(¬(e.kind=1\/e.kind=2)->pJ e.sheet/\yT e.bar)/\(e.kind≠5->e.cuts.length=0/\e.rests.length=0/\e.scrap=0)/\
 (e.kind=1->yT e.bar/\dB e.sheet)/\(e.kind=2->pJ e.sheet/\fM e.bar)/\(e.kind=3\/e.kind=7->iM e.text)/\(e.kind=4\/e.kind=6\/e.kind=8->e.text=aI)/\
 (e.kind=5->nY e)/\1<=e.kind/\e.kind<=8
def aE0(e:Event)(b:iY e):Sp 15 [aS e] (DB (iD e)):=by
 refine zsp func15 ?_;have f:=bM6 e.sheet;have g:=cV3 e.bar;have i:=aR2 e.sheet b.sh;have j:=qP e.bar b.br;have k:=aG6 e.text;have l:=bL8 e b;have c:(e.cuts.map dK).length=e.cuts.length:=Af;have d:(e.rests.map bY).length=e.rests.length:=Af
 have hr:iD e↔((e.kind=1\/e.kind=2)->e.id=0/\e.text=aI)/\(¬(e.kind=1\/e.kind=2)->pJ e.sheet/\yT e.bar)/\(e.kind≠5->e.cuts.length=0/\e.rests.length=0/\e.scrap=0)/\
  (e.kind=1->yT e.bar/\dB e.sheet)/\(e.kind=2->pJ e.sheet/\fM e.bar)/\(e.kind=3\/e.kind=7->iM e.text)/\(e.kind=4\/e.kind=6\/e.kind=8->e.text=aI)/\
  (e.kind=5->nY e)/\1<=e.kind/\e.kind<=8:=Qn
 generalize iD e=P at*;generalize pJ e.sheet=m at*;generalize yT e.bar=n at*;generalize dB e.sheet=o at*;generalize fM e.bar=q at*;generalize iM e.text=r at*;generalize nY e=s at*;have a:e.kind=1\/e.kind=2\/e.kind=3\/e.kind=4\/e.kind=5\/e.kind=6\/e.kind=7\/e.kind=8\/(e.kind<1\/8<e.kind):=Aa;rcases a with a|a|a|a|a|a|a|a|a;exact IX;exact IX;exact H7;exact H7;exact H7;exact H7;exact H7;exact H7;exact H7
variable{α β:Type}
def bys(s:ByteArray):List Int:=s.data.toList.map λb=>(b.toNat:Int)
def byV(n:Int):V:= .lit (.int .u8 n)
theorem strV_bys(s:ByteArray):strV s=(bys s).map byV:=by
 unfold strV bys;rw[Sr];rfl
theorem bys_len(s:ByteArray):(bys s).length=s.size:=by
 unfold bys;rw[P6,PX];rfl
def bys_isB(s:ByteArray):∀c∈bys s,isB c:=by
 intro c a;obtain⟨b,_,rfl⟩:=PI.1 a;have:=b.toNat_lt;unfold isB;omega
def bys_inj{s t:ByteArray}(h:bys s=bys t):s=t:=by
 have a:s.data.toList=t.data.toList:=by
  unfold bys at h;generalize s.data.toList=l at*;generalize t.data.toList=m at*;induction l generalizing m with
  |nil=>cases m with
   |nil=>rfl
   |cons y m=>cases h
  |cons x l c=>cases m with
   |nil=>cases h
   |cons y m=>
    rw[PW,PW]at h;obtain⟨b,a⟩:=List.cons.inj h;rw[c m a];congr 1;exact UInt8.toNat_inj.1 (Int.ofNat.inj b)
 cases s;cases t;congr 1;exact Array.toList_inj.1 a
def strOf_app(l m:List Int):(strOf (l++m)).data.toList=(strOf l).data.toList++m.map λn=>UInt8.ofNat n.toNat:=by
 induction m generalizing l with
 |nil=>simp
 |cons x m a=>
  have:=a (l++[x]);rw[Pq]at this;rw[show l++x::m=l++([x] ++m)from rfl,this];have e:strOf (l++[x])=(strOf l).push (UInt8.ofNat x.toNat):=by unfold strOf;rw[QN];rfl
  rw[e];simp[ByteArray.push]
theorem strOf_list(l:List Int):(strOf l).data.toList=l.map λn=>UInt8.ofNat n.toNat:=by
 have:=strOf_app [] l;rw[Rh]at this;rw[this];rfl
def bys_of{l:List Int}(h:∀c∈l,isB c):bys (strOf l)=l:=by
 unfold bys;rw[strOf_list,Sr];conv=>rhs;rw[<-List.map_id l]
 apply Ru;intro c a;have:=h c a;unfold isB at this;show(((UInt8.ofNat c.toNat).toNat:Nat):Int)=c;rw[UInt8.toNat_ofNat'];omega
theorem of_bys(s:ByteArray):strOf (bys s)=s:=bys_inj (bys_of (bys_isB s))
def Cod.emb(c:Cod α)(f:β->α)(p q:β->Prop)(h:∀ {x y},p x->p y->f x=f y->x=y):Cod β where
 enc x:=c.enc (f x)
 rng x:=p x/\c.rng (f x)
 ok x:=c.ok (f x)/\q x
 uni:=by
  intro x y r s hx hy e;obtain⟨h1,h2⟩:=c.uni hx.2 hy.2 e;exact⟨h hx.1 hy.1 h1,h2⟩
def cText(m:Int):Cod ByteArray:=(cBytes m).emb bys (λ_=>True) (λ_=>True) λ_ _ h=>bys_inj h
theorem cText_enc(m:Int)(s:ByteArray):(cText m).enc s=encI s.size++bys s:=by
 show(cBytes m).enc (bys s)=_;rw[cBytes_enc,bys_len]
def cVec:Cod Vc:=cI.pair cI
def cRing(m:Int):Cod Rg:=cVec.list m
def cShape:Cod Sh:=((cRing 40).pair ((cRing 40).list 6)).iso (λs=>(s.outer,s.holes)) (λp=>⟨p.1,p.2⟩) λ_=>rfl
def cSheet:Cod jL:=(cI.pair ((cText 16).pair ((cText 16).pair (cI.pair (cShape.pair (cShape.list 6)))))).emb (λs=>(s.id,s.grade,s.heat,s.grain,s.shape,s.defects)) (λ_=>True) dB (fun {x y} _ _ h=>by
 cases x;cases y;simp only[QY]at h;obtain⟨rfl,rfl,rfl,rfl,rfl,rfl⟩:=h;rfl)
def cBar:Cod Bar:=(cI.pair ((cText 16).pair ((cText 16).pair (cI.pair ((cI.pair cI).list 6))))).emb (λs=>(s.id,s.grade,s.heat,s.length,s.defects)) (λ_=>True) fM (fun {x y} _ _ h=>by
 cases x;cases y;simp only[QY]at h;obtain⟨rfl,rfl,rfl,rfl,rfl⟩:=h;rfl)
def no_sheet{s:jL}:pJ s↔s=dN:=by
 obtain⟨i,g,t,n,⟨o,k⟩,d⟩:=s;constructor;intro h;obtain⟨rfl,rfl,rfl,rfl,e,f,j⟩:=h;have a:o=[] :=PZ e;have b:k=[] :=PZ f;have c:d=[] :=PZ j;rw[a,b,c];rfl;intro h;rw[h];exact⟨rfl,rfl,rfl,rfl,rfl,rfl,rfl⟩
def no_bar{s:Bar}:yT s↔s=bar0:=by
 obtain⟨i,g,t,n,d⟩:=s;constructor;intro h;obtain⟨rfl,rfl,rfl,rfl,b⟩:=h;have a:d=[] :=PZ b;rw[a];rfl;intro h;rw[h];exact⟨rfl,rfl,rfl,rfl,rfl⟩
@[irreducible] def optE(c:Cod α)(z x:α):List Int:= @ite _ (x=z) (Classical.propDecidable _) [] (c.enc x)
def optE_t{c:Cod α}{z x:α}(h:x=z):optE c z x=[] :=by unfold optE;rw[Pm h]
def optE_f{c:Cod α}{z x:α}(h:x≠z):optE c z x=c.enc x:=by unfold optE;rw[Ph h]
def Cod.opt(c:Cod α)(m:Int)(z:α)(hn:∀x,c.enc x≠ []):Cod α:=
 (cBytes m).emb (optE c z) c.rng (λx=>x=z\/c.ok x) (fun {x y} hx hy h=>by
  by_cases c1:x=z;by_cases c2:y=z;rw[c1,c2];rw[optE_t c1,optE_f c2]at h;exact absurd h.symm (hn y);by_cases c2:y=z;rw[optE_f c1,optE_t c2]at h;exact absurd h (hn x);rw[optE_f c1,optE_f c2]at h
  exact(c.uni (r:=[]) (s:=[]) hx hy (by rw[h])).1)
def cSheet_ne(s:jL):cSheet.enc s≠ [] :=λh=>JQ
def cBar_ne(s:Bar):cBar.enc s≠ [] :=λh=>JQ
def cMade:Cod Made:=(cI.pair ((cText 16).pair cI)).emb (λx=>(x.id,x.part,x.size)) (λ_=>True) (λ_=>True) (fun {x y} _ _ h=>by
 cases x;cases y;simp only[QY]at h;obtain⟨rfl,rfl,rfl⟩:=h;rfl)
def cRest:Cod Rest:=(cI.pair ((cVec.pair cVec).pair (cI.pair cI))).emb (λx=>(x.id,x.box,x.lo,x.hi)) (λ_=>True) (λ_=>True) (fun {x y} _ _ h=>by
 cases x;cases y;simp only[QY]at h;obtain⟨rfl,rfl,rfl,rfl⟩:=h;rfl)
def cEvent(m:Int):Cod Event:=
 (cI.pair (cI.pair ((cText 16).pair ((cSheet.opt m dN cSheet_ne).pair ((cBar.opt m bar0 cBar_ne).pair ((cMade.list 60).pair ((cRest.list 6).pair cI))))))).emb
  (λx=>(x.kind,x.id,x.text,x.sheet,x.bar,x.cuts,x.rests,x.scrap)) (λ_=>True) iD (fun {x y} _ _ h=>by
 cases x;cases y;simp only[QY]at h;obtain⟨rfl,rfl,rfl,rfl,rfl,rfl,rfl,rfl⟩:=h;rfl)
def shr_lit{n b:Int}(m:Nat)(h:(2:Int)^(min b.toNat 64)=(m:Int)):shrI .i64 n b=n/ (m:Int):=by
 unfold shrI;show n.fdiv (2^(min b.toNat 64))=_;rw[h];exact Int.fdiv_eq_ediv_of_nonneg n Aa
def shr_fits{n:Int}(a:R64 n):∀ {s:Nat},1<=s->s<8->(shrI .i64 n (8*(s:Int)-1)=shrI .i64 n 63↔fits s n):=by
 intro s l m;unfold R64 at a;obtain⟨c,d,f,g,i,j,k,_⟩:=lims;have b:s=1\/s=2\/s=3\/s=4\/s=5\/s=6\/s=7:=Aa;have e:shrI .i64 n 63=n/9223372036854775808:=shr_lit 9223372036854775808 Ai;rw[e];unfold fits;rw[Ph Aa];rcases b with rfl|rfl|rfl|rfl|rfl|rfl|rfl;rw[show shrI .i64 n (8*((1:Nat):Int)-1)=n/128 from shr_lit 128 Ai,c];omega;rw[show shrI .i64 n (8*((2:Nat):Int)-1)=n/32768 from shr_lit 32768 Ai,d];omega;rw[show shrI .i64 n (8*((3:Nat):Int)-1)=n/8388608 from shr_lit 8388608 Ai,f];omega;rw[show shrI .i64 n (8*((4:Nat):Int)-1)=n/2147483648 from shr_lit 2147483648 Ai,g];omega;rw[show shrI .i64 n (8*((5:Nat):Int)-1)=n/549755813888 from shr_lit 549755813888 Ai,i];omega;rw[show shrI .i64 n (8*((6:Nat):Int)-1)=n/140737488355328 from shr_lit 140737488355328 Ai,j];omega;rw[show shrI .i64 n (8*((7:Nat):Int)-1)=n/36028797018963968 from shr_lit 36028797018963968 Ai,k];omega
def wid_zero{n:Int}:widN n=0↔n=0:=by
 unfold widN;split;simp_all;constructor
 ·intro h;exfalso;revert h;repeat' split
  all_goals omega
 intro h;contradiction
def fits_wid{n:Int}{s:Nat}(h:fits s n)(j:s<=8):widN n<=s:=by
 obtain⟨b,c,d,e,f,g,i,_⟩:=lims;have a:s=0\/s=1\/s=2\/s=3\/s=4\/s=5\/s=6\/s=7\/s=8:=Aa;unfold fits at h;rcases a with rfl|rfl|rfl|rfl|rfl|rfl|rfl|rfl|rfl;rw[Pm rfl]at h;rw[h];exact Po _;all_goals (rw[Ph Aa]at h)
 all_goals first|rw[b]at h|rw[c]at h|rw[d]at h|rw[e]at h|rw[f]at h|rw[g]at h|rw[i]at h|skip
 all_goals (unfold widN;repeat' split)
 all_goals first|omega|(exact Po _)
theorem byte_wrap(n:Int):IntKind.u8.wrap n=n% 256:=by
 simp[IntKind.wrap,IntKind.signed,IntKind.bits]
def dropB:Nat->Int->Int
 |0,n=>n
 |i+1,n=>dropB i n/256
theorem dropB_eq:∀(i:Nat) (n:Int),dropB i n=n/ (256^i:Nat)
 |0,n=>by simp[dropB]
 |i+1,n=>by
  unfold dropB;rw[dropB_eq i n,Int.ediv_ediv_of_nonneg (Int.natCast_nonneg _),Nat.pow_succ,Int.natCast_mul];rfl
def shr_byte{n:Int}{i:Nat}(h:i<8):shrI .i64 n (8*(i:Int))=dropB i n:=by
 rw[dropB_eq];have a:i=0\/i=1\/i=2\/i=3\/i=4\/i=5\/i=6\/i=7:=Aa;rcases a with rfl|rfl|rfl|rfl|rfl|rfl|rfl|rfl;exact shr_lit 1 Ai;exact shr_lit 256 Ai;exact shr_lit 65536 Ai;exact shr_lit 16777216 Ai;exact shr_lit 4294967296 Ai;exact shr_lit 1099511627776 Ai;exact shr_lit 281474976710656 Ai;exact shr_lit 72057594037927936 Ai
theorem bytes_step(m i:Nat)(n:Int):bytesN (m+1) (dropB i n)=bytesN m (dropB (i+1) n)++[dropB i n% 256] :=rfl
def byV_cells(l:List Int):∀y∈l.map byV,y.cells.length=1:=λy hy=>AP
def wInt_spec(b:List Int)(n:Int)(l:R64 n)(w:b.length<=900000000):Sp 30 [.own 5 (b.map byV),I n] (.own 5 ((b++encI n).map byV)):=by
 refine zsp func30 ?_;have r:(b.map byV).length=b.length:=Af;have z:=wid_le n;all_goals conv=>whnf
 refine eY7 ?_;repeat' ((conv=>whnf);first|omega|refine zU ?_|refine zd (λhd=>?_) (λhd=>?_)|refine zl (λhlt=>?_) (λhlt=>?_)|refine zk (λhle=>?_) (λhle=>?_)|refine ze (λheq=>?_) (λheq=>?_)|refine zm (λx hx=>?_)|refine zb (λhbb=>?_) (λhbb=>?_))
 refine eY7 ?_;repeat' ((conv=>whnf);first|omega|refine zU ?_|refine zd (λhd=>?_) (λhd=>?_)|refine zl (λhlt=>?_) (λhlt=>?_)|refine zk (λhle=>?_) (λhle=>?_)|refine ze (λheq=>?_) (λheq=>?_)|refine zm (λx hx=>?_)|refine zb (λhbb=>?_) (λhbb=>?_))
 all_goals conv=>whnf
 refine dJ4 Nat (λs=>mkSt [(0, .arr 0 0),(1,I n),(5,I s)] [] [(0,⟨0, .own,5,b.map byV⟩)]) (λs=>(n=0/\s=0)\/(n≠0/\s=1)) ?_ ?_
 ·repeat' ((conv=>whnf);first|omega|refine zS ?_|refine zd (λhd=>?_) (λhd=>?_)|refine zl (λhlt=>?_) (λhlt=>?_)|refine zk (λhle=>?_) (λhle=>?_)|refine ze (λheq=>?_) (λheq=>?_)|refine zm (λx hx=>?_)|refine zb (λhbb=>?_) (λhbb=>?_))
  all_goals conv=>whnf
  refine⟨0,?_, .inl ⟨Ah,rfl⟩⟩;exact zj;refine⟨1,?_, .inr ⟨Ah,rfl⟩⟩;exact zj
 intro s v;all_goals conv=>whnf
 refine dJ4 Unit (λ_=>mkSt [(0, .arr 0 0),(1,I n),(5,I (widN n))] [] [(0,⟨0, .own,5,b.map byV⟩)]) (λ_=>True) ?_ ?_
 ·repeat' ((conv=>whnf);first|refine zS ?_|refine zd (λhd=>?_) (λhd=>?_)|refine zl (λhlt=>?_) (λhlt=>?_)|refine zk (λhle=>?_) (λhle=>?_)|refine ze (λheq=>?_) (λheq=>?_)|refine zm (λx hx=>?_)|refine zb (λhbb=>?_) (λhbb=>?_))
  all_goals conv=>whnf
  refine lD (A:=Nat) (λs=>mkSt [(0, .arr 0 0),(1,I n),(5,I s)] [] [(0,⟨0, .own,5,b.map byV⟩)]) (λs=>(n=0/\s=0)\/(n≠0/\1<=s/\s<=widN n)) (λs=>8-s) s ?_ ?_ (λt m=>?_);exact zj;rcases v with h|h;exact .inl h;have:=mt wid_zero.1 h.1;exact .inr ⟨h.1,Aa,Aa⟩
  have f:t<=widN n:=by
   rcases m with h|h;omega;exact h.2.2
  have q:t<=8:=Aa;rcases m with⟨d,a⟩|⟨d,a,_⟩;have e:t=widN n:=by rw[d,wid_zero.2 rfl,a]
  exact LM;by_cases c:t=8;have e:t=widN n:=by omega
  exact LM;have g:=shr_fits l a Aa;repeat' ((conv=>whnf);first|omega|refine zS ?_|refine zd (λhd=>?_) (λhd=>?_)|refine zl (λhlt=>?_) (λhlt=>?_)|refine zk (λhle=>?_) (λhle=>?_)|refine ze (λheq=>?_) (λheq=>?_)|refine zm (λx hx=>?_)|refine zb (λhbb=>?_) (λhbb=>?_))
  all_goals conv=>whnf
  have e:t=widN n:=Nat.le_antisymm f (fits_wid (g.1 heq) q);refine⟨(),?_,trivial⟩;rw[<-e];exact zj;have e:t≠widN n:=λe=>heq (g.2 (by rw[e];exact wid_fits l));refine⟨t+1,?_, .inr ⟨d,Aa,Aa⟩,by show 8- (t+1)<8-t;omega⟩;exact zj
 intro _ _;generalize u:widN n=k at*;repeat' ((conv=>whnf);first|refine iH rfl (.inl rfl) rfl (OZ rfl) (dA rfl) (by show(b.map byV).length+1<=1000000000;omega) ?_|refine fK (byte_wrap _) ?_|refine zS ?_|refine zd (λhd=>?_) (λhd=>?_)|refine zl (λhlt=>?_) (λhlt=>?_)|refine zk (λhle=>?_) (λhle=>?_)|refine ze (λheq=>?_) (λheq=>?_)|refine zm (λx hx=>?_)|refine zb (λhbb=>?_) (λhbb=>?_))
 all_goals conv=>whnf
 refine lD (A:=Nat) (λj=>mkSt [(0, .arr 0 (k-j+1)),(1,I n),(6,I ((j:Int)-1))] [] [(0,⟨k-j+1, .own,5,(b++(k:Int)::bytesN (k-j) (dropB j n)).map byV⟩)]) (λj=>j<=k) (λj=>j) k ?_ (Po _) (λj y=>?_);rw[Nat.sub_self];have e:(b++(k:Int)::bytesN 0 (dropB k n)).map byV=b.map byV++[byV ((k:Int)% 256)] :=by rw[Qa,show(k:Int)% 256=k by omega];rfl
 rw[e];exact zj;cases j with
 |zero=>
  have e:b++encI n=b++(k:Int)::bytesN (k-0) (dropB 0 n):=by unfold encI;rw[u];rfl
  rw[e];exact Lh
 |succ j=>
  have i:((b++(k:Int)::bytesN (k- (j+1)) (dropB (j+1) n)).map byV).length=b.length+(k-j):=by
   rw[P6,OY,PE,bytesN_len];omega
  have a:shrI .i64 n (8*(((j+1:Nat):Int)-1))=dropB j n:=by
   rw[show 8*(((j+1:Nat):Int)-1)=8*(j:Int) from Aa];exact shr_byte Aa
  repeat' ((conv=>whnf);first|omega|refine iH rfl (.inl rfl) rfl (OZ rfl) (dA rfl) (by show((b++(k:Int)::bytesN (k- (j+1)) (dropB (j+1) n)).map byV).length+1<=1000000000;omega) ?_|refine fK (byte_wrap _) ?_|refine zS ?_|refine zd (λhd=>?_) (λhd=>?_)|refine zl (λhlt=>?_) (λhlt=>?_)|refine zk (λhle=>?_) (λhle=>?_)|refine ze (λheq=>?_) (λheq=>?_)|refine zm (λx hx=>?_)|refine zb (λhbb=>?_) (λhbb=>?_))
  all_goals conv=>whnf
  rw[a];refine⟨j,?_,Aa,Aa⟩
  have e:(b++(k:Int)::bytesN (k-j) (dropB j n)).map byV=(b++(k:Int)::bytesN (k- (j+1)) (dropB (j+1) n)).map byV++[byV (dropB j n% 256)] :=by
   rw[show k-j=(k- (j+1))+1 from Aa,bytes_step];simp
  have o:k-j+1=k- (j+1)+1+1:=Aa;rw[e,o];exact zj
def rdC(b:List Int)(k:Nat)(f:Bool):List V:=[.sl (b.map byV),I k,B f]
structure Byt(b:List Int):Prop where
 isb:∀c∈b,isB c
 len:b.length<=100000000
def rnx_vc(b:List Int)(k:Nat)(f:Bool)(d:Byt b)(i:k<=b.length):jR T Tryz.prog Tryz.f93 [.box 100000 0] [rdC b k f] (.lit (.int .u8 (b.getD k 0))) [rdC b (if k<b.length then k+1 else k) (f||decide (b.length<=k))] :=by
 have j:=d.len;have g:(b.map byV).length=b.length:=Af;by_cases c:k<b.length;have e:(f||decide (b.length<=k))=f:=by simp;omega
 rw[Pm c,e];have hx:b[k]? =some (b.getD k 0):=by rw[Pj c,PY,Pj c];rfl
 generalize b.getD k 0=x at*;exact Ls;have e:(f||decide (b.length<=k))=true:=by simp;omega
 have a:b.getD k 0=0:=by rw[PY,Qj (by omega)];rfl
 rw[Ph c,e,a];exact Ls
def rnx_spec(b:List Int)(k:Nat)(f:Bool)(a:Byt b)(c:k<=b.length):SpB 93 [.box 100000 0] [rdC b k f] (.lit (.int .u8 (b.getD k 0))) [rdC b (if k<b.length then k+1 else k) (f||decide (b.length<=k))] :=
 b_of func93 Ac Ac rfl rfl (rnx_vc b k f a c)
def rnx_y{b:List Int}{k:Nat}{f:Bool}{x:Int}(d:Byt b)(a:b[k]? =some x):SpB 93 [.box 100000 0] [rdC b k f] (.lit (.int .u8 x)) [rdC b (k+1) f] :=by
 obtain⟨c,e⟩:=Pg.1 a;have:=rnx_spec b k f d Aa;rw[Pm c,show(f||decide (b.length<=k))=f from Be,PY,a]at this;exact this
def rnx_n{b:List Int}{f:Bool}(a:Byt b):SpB 93 [.box 100000 0] [rdC b b.length f] (.lit (.int .u8 0)) [rdC b b.length true] :=by
 have:=rnx_spec b b.length f a (Po _);rw[Ph Aa,show(f||decide (b.length<=b.length))=true from Af,PY,Qj (Po _)]at this;exact this
def orI_byte{a c:Int}(g:R64 a)(h:a% 256=0)(j:0<=c/\c<256):Go.Ab.orI .i64 a c=a+c:=by
 unfold Go.Ab.orI;unfold R64 at g;have d:(BitVec.ofInt 64 a).toNat=(a% 18446744073709551616).toNat:=by rw[BitVec.toNat_ofInt];rfl
 have f:(BitVec.ofInt 64 c).toNat=(c% 18446744073709551616).toNat:=by rw[BitVec.toNat_ofInt];rfl
 obtain⟨q,i⟩:∃q:Nat,(a% 18446744073709551616).toNat=2^8*q:=⟨(a% 18446744073709551616).toNat/256,Aa⟩;have b:(c% 18446744073709551616).toNat<2^8:=Aa
 have e:(BitVec.ofInt 64 a|||BitVec.ofInt 64 c).toNat=(a% 18446744073709551616).toNat+(c% 18446744073709551616).toNat:=by
  rw[BitVec.toNat_or,d,f,i,<-Nat.two_pow_add_eq_or_of_lt b q]
 show IntKind.i64.wrap ((BitVec.ofInt 64 a|||BitVec.ofInt 64 c).toNat:Int)=_;rw[e];simp[IntKind.wrap,IntKind.signed,IntKind.bits];split<;>omega
def Cod.at{α:Type}(c:Cod α)(b:List Int)(k:Nat):Option (α×Nat):=(c.dec (b.drop k)).map λp=>(p.1,k+(c.enc p.1).length)
theorem Cod.at_iff{d:Type}(c:Cod d){b:List Int}{k m:Nat}{x:d}:c.at b k=some (x,m)↔m=k+(c.enc x).length/\c.D (b.drop k) x (b.drop m):=by
 unfold Cod.at;rw[Option.map_eq_some_iff];constructor;rintro⟨⟨y,r⟩,h,e⟩;cases e;have a:=c.dec_iff.1 h;refine⟨rfl,?_⟩;have f:b.drop (k+(c.enc y).length)=r:=by rw[<-List.drop_drop,a.1,List.drop_left]
 rw[f];exact a;rintro⟨rfl,h⟩;exact⟨(x,_),c.dec_iff.2 h,rfl⟩
theorem Cod.at_none{a:Type}(c:Cod a){b:List Int}{k:Nat}:c.at b k=none↔c.dec (b.drop k)=none:=by
 unfold Cod.at;rw[Option.map_eq_none_iff]
def Cod.at_le{a:Type}{c:Cod a}{b:List Int}{k m:Nat}{x:a}(h:c.at b k=some (x,m))(d:k<=b.length):k<=m/\m<=b.length:=by
 obtain⟨rfl,h⟩:=c.at_iff.1 h;have:=Cod.D_len h;rw[Qm]at this;omega
def Byt.drop{b:List Int}(h:Byt b)(k:Nat):∀c∈b.drop k,isB c:=λc a=>h.isb c (PU a)
theorem eqIv(a b c d:Int):eqT T 4 64 [I a,I b] [I c,I d] =some (andB (eqB a c) (andB (eqB b d) true)):=Ac
def eqIv_i{a b c d:Int}{K:Bool->Prop}(h:K (andB (eqB a c) (andB (eqB b d) true))):aL1.match_1 (λ_=>Prop) (eqT T 4 64 [I a,I b] [I c,I d]) K (λ_=>False):=by
 rw[eqIv];exact h
def upS(r:Iv)(l:List aN):Iv:=l.foldl (λr x=>plus x.isBar r (gG x)) r
def upP(r:Iv)(l:List Piece):Iv:=l.foldl (λr x=>plus x.isBar r x.size) r
def tK(s:aJ):Prop:=upP (upS s.scrap s.stocks) s.pieces=s.received
def eC9(r:Iv)(D:List aN)(x:aN):upS r (D++[x])=plus x.isBar (upS r D) (gG x):=by unfold upS;simp
def eL4(r:Iv)(D:List Piece)(x:Piece):upP r (D++[x])=plus x.isBar (upP r D) x.size:=by unfold upP;simp
def eS4{a b:Iv}{p:Prop}(h:a=b↔p):andB (eqB a.1 b.1) (andB (eqB a.2 b.2) true)=decB p:=Qv.2 (by rw[dU0,dH];exact h)
def bN0(s:aJ)(G:s.stocks.length<=1000000)(H:s.pieces.length<=1000000)(J:∀x∈s.stocks,eY x):Sp 22 [invV s] (DB (tK s)):=by
 refine zsp func22 ?_;have hm1:(s.stocks.map aQ).length=s.stocks.length:=Af;have y:(s.pieces.map aZ).length=s.pieces.length:=Af;have C:upP (upS s.scrap s.stocks) s.pieces=s.received↔tK s:=Qn;generalize tK s=P at*;repeat' ((conv=>whnf);first|omega|refine zS ?_|refine zm (λx c=>?_)|refine zT ?_ ?_<;>intro _|fail)
 refine aU (A:=List aN) (B:=List aN) (λD R=>mkSt [(1, .box 1 0),(3, .box 3 0),(11, .sl (s.stocks.map aQ)),(12,I s.stocks.length),(13,I D.length)] [(1,invC s),(3,[I (upS s.scrap D).1,I (upS s.scrap D).2])] []) (λD R=>s.stocks=D++R) (λD R=>R.length) [] s.stocks ?_ rfl (λD R hp=>?_);exact I4;cases R with
 |cons x R=>
  have f:=aO hp;have d:=oL x.isBar;have E:=vF x (J x Ad);have hsn:=eC9 s.scrap D x;have w:((D++[x]).length:Int)=(D.length:Int)+1:=Af;generalize upS s.scrap D=r at*;generalize gG x=z at*;unfold plus at hsn;obtain⟨b,v,i,p⟩:=x;cases b;all_goals simp only[QM,Bool.false_eq_true,Rx]at hsn
  ·repeat' ((conv=>whnf);first|omega|refine aB (l:=s.stocks) Aa ?_|refine aF (l:=s.stocks) (A:=D) (x:=⟨false,v,i,p⟩) (B:=R) hp Aa ?_|refine zc d ?_|refine zc E ?_|refine zS ?_|refine zm (λx c=>?_)|refine zT ?_ ?_<;>intro _|fail)
   all_goals conv=>whnf
   refine⟨(D++[⟨false,v,i,p⟩],R),?_,Ad,Af⟩;exact LZ
  repeat' ((conv=>whnf);first|omega|refine aB (l:=s.stocks) Aa ?_|refine aF (l:=s.stocks) (A:=D) (x:=⟨true,v,i,p⟩) (B:=R) hp Aa ?_|refine zc d ?_|refine zc E ?_|refine zS ?_|refine zm (λx c=>?_)|refine zT ?_ ?_<;>intro _|fail)
  all_goals conv=>whnf
  refine⟨(D++[⟨true,v,i,p⟩],R),?_,Ad,Af⟩;exact LZ
 |nil=>
  have f:s.stocks.length=D.length:=Ad;have e:s.stocks=D:=Ad;rw[e]at C;generalize upS s.scrap D=g at*;repeat' ((conv=>whnf);first|omega|refine zS ?_|refine zm (λx c=>?_)|refine zT ?_ ?_<;>intro _|fail)
  clear hp;refine aU (A:=List Piece) (B:=List Piece) (λD R=>mkSt [(1, .box 1 0),(3, .box 3 0),(28, .sl (s.pieces.map aZ)),(29,I s.pieces.length),(30,I D.length)] [(1,invC s),(3,[I (upP g D).1,I (upP g D).2])] []) (λD R=>s.pieces=D++R) (λD R=>R.length) [] s.pieces ?_ rfl (λD R hp=>?_)
  ·refine dV ?_ ?_ ?_ ?_
   all_goals repeat' (first|exact trivial|refine And.intro ?_ ?_|with_reducible rfl|exact(λh=>Ag)|exact Po _|omega|exact rfl)
   all_goals (try rw[y])
  cases R with
  |cons x R=>
   have a:=aO hp;have d:=oL x.isBar;have hsn:=eL4 g D x;have w:((D++[x]).length:Int)=(D.length:Int)+1:=Af;generalize upP g D=r at*;unfold plus at hsn;obtain⟨j,k,m,n,o,q,b,t,u⟩:=x;cases b;all_goals simp only[QM,Bool.false_eq_true,Rx]at hsn
   ·repeat' ((conv=>whnf);first|omega|refine aB (l:=s.pieces) Aa ?_|refine aF (l:=s.pieces) (A:=D) (x:=⟨j,k,m,n,o,q,false,t,u⟩) (B:=R) hp Aa ?_|refine zc d ?_|refine zS ?_|refine zm (λx c=>?_)|refine zT ?_ ?_<;>intro _|fail)
    all_goals conv=>whnf
    refine⟨(D++[⟨j,k,m,n,o,q,false,t,u⟩],R),?_,Ad,Af⟩;exact LZ
   repeat' ((conv=>whnf);first|omega|refine aB (l:=s.pieces) Aa ?_|refine aF (l:=s.pieces) (A:=D) (x:=⟨j,k,m,n,o,q,true,t,u⟩) (B:=R) hp Aa ?_|refine zc d ?_|refine zS ?_|refine zm (λx c=>?_)|refine zT ?_ ?_<;>intro _|fail)
   all_goals conv=>whnf
   refine⟨(D++[⟨j,k,m,n,o,q,true,t,u⟩],R),?_,Ad,Af⟩;exact LZ
  |nil=>
   have a:s.pieces.length=D.length:=Ad;have F:s.pieces=D:=Ad;rw[F]at C;generalize upP g D=K at*;repeat' ((conv=>whnf);first|omega|refine eqIv_i ?_|refine zS ?_|refine zm (λx c=>?_)|refine zT ?_ ?_<;>intro _|fail)
   all_goals conv=>whnf
   all_goals exact aA (eS4 C)
def w_len{n:Nat}(h:n<=1000000000):R64 (n:Int):=Fe
def enc_len9(n:Int):(encI n).length<=9:=by have:=wid_le n;rw[enc_len];omega
def wText_spec(b:List Int)(s:ByteArray)(i:b.length<=400000000)(k:s.size<=400000000):Sp 29 [.own 5 (b.map byV),S s] (.own 5 ((b++(encI s.size++bys s)).map byV)):=by
 refine zsp func29 ?_;have g:=wInt_spec b s.size (w_len Aa) Aa;have j:=enc_len9 s.size;have a:=byV_cells (bys s);have e:(b++(encI s.size++bys s)).map byV=(b++encI s.size).map byV++strV s:=by rw[strV_bys,<-Pq,Qa]
 rw[e];have d:((b++encI s.size).map byV).length=b.length+(encI s.size).length:=Af;have f:(strV s).length=s.size:=by rw[strV_bys,P6,bys_len]
 have c:∀y∈strV s,y.cells.length=1:=by rw[strV_bys];exact a
 generalize (b++encI s.size).map byV=X at*;repeat' ((conv=>whnf);first|refine iH rfl (.inl rfl) rfl (OZ rfl) c (by show X.length+(strV s).length<=_;omega) ?_|refine zS ?_|refine zm (λx l=>?_)|refine zT ?_ ?_<;>intro _|fail)
 all_goals exact zE
def wBytes_spec(b x:List Int)(g:b.length<=400000000)(j:x.length<=400000000):Sp 31 [.own 5 (b.map byV), .sl (x.map byV)] (.own 5 ((b++(encI x.length++x)).map byV)):=by
 refine zsp func31 ?_;have c:(x.map byV).length=x.length:=Af
 have f:Sp 30 [.own 5 (b.map byV),I (x.map byV).length] (.own 5 ((b++encI x.length).map byV)):=by
  rw[c];exact wInt_spec b x.length (w_len Aa) Aa
 have i:=enc_len9 x.length;have a:=byV_cells x;have e:(b++(encI x.length++x)).map byV=(b++encI x.length).map byV++x.map byV:=by rw[<-Pq,Qa]
 rw[e];have d:((b++encI x.length).map byV).length=b.length+(encI x.length).length:=Af;generalize (b++encI x.length).map byV=X at*;generalize x.map byV=Y at*;repeat' ((conv=>whnf);first|refine iH rfl (.inl rfl) rfl (OZ rfl) a (by show X.length+Y.length<=_;omega) ?_|refine zS ?_|refine zm (λx k=>?_)|refine zT ?_ ?_<;>intro _|fail)
 all_goals exact zE
def wVec_spec(b:List Int)(v:Vc)(a:R64 v.1)(c:R64 v.2)(g:b.length<=400000000):Sp 32 [.own 5 (b.map byV),vcV v] (.own 5 ((b++cVec.enc v).map byV)):=by
 refine zsp func32 ?_;have d:=wInt_spec b v.1 a Aa;have i:=enc_len9 v.1;have f:=wInt_spec (b++encI v.1) v.2 c AA;have e:(b++cVec.enc v).map byV=(b++encI v.1++encI v.2).map byV:=by show(b++(encI v.1++encI v.2)).map byV=_;rw[Pq]
 rw[e];generalize (b++encI v.1++encI v.2).map byV=Z at*;generalize (b++encI v.1).map byV=Y at*;generalize b.map byV=X at*;repeat' ((conv=>whnf);first|refine bW8 [(3,3),(6,3),(9,3)] [(8,[]),(11,[])] Ae Ak ?_|refine zh (xX d) [] ?_|refine zh (xX f) [] ?_|refine zS ?_|refine zm (λx j=>?_)|refine zT ?_ ?_<;>intro _|fail)
 all_goals exact zE
theorem dropB_comm:∀(j:Nat) (n:Int),dropB j (n/256)=dropB j n/256
 |0,n=>rfl
 |j+1,n=>by unfold dropB;rw[dropB_comm j n]
def bytes_front:∀(j:Nat) (n:Int),bytesN (j+1) n=dropB j n% 256::bytesN j n
 |0,n=>rfl
 |j+1,n=>by
  rw[show bytesN (j+1+1) n=bytesN (j+1) (n/256)++[n% 256]from rfl,bytes_front j (n/256),dropB_comm];rfl
theorem u64_wrap(n:Int):IntKind.u64.wrap n=n% 18446744073709551616:=by
 simp[IntKind.wrap,IntKind.signed,IntKind.bits]
end Go.Proofs.Led
