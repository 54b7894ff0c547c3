/-
  The inventory: what is found by its identity.
-/
import Derived.Test.YtdjgbagnajikeaaGreatDoorB6
set_option linter.unusedVariables false
set_option linter.unusedSimpArgs false
set_option maxRecDepth 1000000
set_option maxHeartbeats 8000000
noncomputable section
namespace Go.Proofs.Led
open Go Go.Proofs Go.Ab
theorem bZ0{b:Type}{Q:b->Prop}:∀ {l:List b} {x:b},x∈l->Q x->(∀y∈l,Q y->y=x)->l[fst Q l]? =some x
 | [],x,h,_,_=>Ah
 |y::l,x,h,a,c=>by
  by_cases d:Q y
  ·simp_all [Uk,Q5,dH,fst]
  ·have e:fst Q (y::l)=fst Q l+1:=by
    simp_all [Uk,QO,dW,fst]
   rw[e,RZ];rcases Rh.1 h with h|h
   ·rw[h]at a;exact absurd a d
   ·exact bZ0 h a (λz hz=>c z Iy)
theorem bB9{c:Type}{key:c->Int}:∀ {l:List c},(l.map key).Pairwise (·<·)->∀ {x y:c},x∈l->y∈l->key x=key y->x=y
 | [],_,x,y,h,_,_=>Ah
 |z::l,d,x,y,f,g,e=>by
  rw[Rq,Sl]at d;rcases Rh.1 f with a|a<;>rcases Rh.1 g with b|b
  ·rw[a,b]
  ·grind [RJ]
  ·grind [RJ]
  ·exact bB9 d.2 a b e
theorem eF7{s:aJ}{n:Nat}(h:Ok s n){x:aN}(a:x∈s.stocks):s.stocks[fst (λy=>sid y=sid x) s.stocks]? =some x:=
 bZ0 a rfl (λy b e=>bB9 h.ss b a e)
theorem dK2{s:aJ}{n:Nat}(h:Ok s n){x:Piece}(a:x∈s.pieces):s.pieces[fst (λy=>y.id=x.id) s.pieces]? =some x:=
 bZ0 a rfl (λy b e=>bB9 h.sp b a e)
theorem cC8(n:Int)(x:Piece):Sp 65 [aZ x, .fp [I n]] (DB (x.id=n)):=by
 refine zsp Tryz.func65 ?_;exact PG
theorem bZ9(n:Int)(x:aN):Sp 67 [aQ x, .fp [I n]] (DB (sid x=n)):=by
 refine zsp Tryz.func67 ?_;have a:=aE2 x;exact PG
theorem fB2{g:FuncId}{c:List V}{Q:Piece->Prop}(hg:∀m,Sp g (aZ m:: [.fp c]) (DB (Q m)))(l:List Piece)(b:l.length<=1000000):fnVC T Tryz.prog Tryz.f64 [.sl (l.map aZ), .fn g [.fp c]] (I (fstI Q l)):=by
 have a:(l.map aZ).length=l.length:=Af
 repeat' ((conv=>whnf);first|refine zS ?_|fail)
 refine aU (A:=List Piece) (B:=List Piece) (λD R=>mkSt [(0, .sl (l.map aZ)),(1, .fn g [.fp c]),(7,I l.length),(8,I D.length)] [] [])
  (λD R=>l=D++R/\∀m∈D,¬Q m) (λD R=>R.length) [] l ?_ ⟨rfl,Af⟩ (λD R hp=>?_)
 ·exact zj
 ·exact I9
theorem dY3{g:FuncId}{c:List V}{Q:Piece->Prop}(a:∀m,Sp g (aZ m:: [.fp c]) (DB (Q m)))(l:List Piece)(b:l.length<=1000000):Sp 64 [.sl (l.map aZ), .fn g [.fp c]] (I (fstI Q l)):=zsp Tryz.func64 (fB2 a l b)
theorem fA9{g:FuncId}{c:List V}{Q:aN->Prop}(hg:∀m,Sp g (aQ m:: [.fp c]) (DB (Q m)))(l:List aN)(b:l.length<=1000000):fnVC T Tryz.prog Tryz.f66 [.sl (l.map aQ), .fn g [.fp c]] (I (fstI Q l)):=by
 have a:(l.map aQ).length=l.length:=Af
 repeat' ((conv=>whnf);first|refine zS ?_|fail)
 refine aU (A:=List aN) (B:=List aN) (λD R=>mkSt [(0, .sl (l.map aQ)),(1, .fn g [.fp c]),(7,I l.length),(8,I D.length)] [] [])
  (λD R=>l=D++R/\∀m∈D,¬Q m) (λD R=>R.length) [] l ?_ ⟨rfl,Af⟩ (λD R hp=>?_)
 ·exact zj
 ·exact I9
theorem eH2{g:FuncId}{c:List V}{Q:aN->Prop}(a:∀m,Sp g (aQ m:: [.fp c]) (DB (Q m)))(l:List aN)(b:l.length<=1000000):Sp 66 [.sl (l.map aQ), .fn g [.fp c]] (I (fstI Q l)):=zsp Tryz.func66 (fA9 a l b)
def piece0:Piece:=⟨0,0,aI,aI,aI,0,false,0,aI⟩
def bF5(s:aJ)(n:Int):aN:=(s.stocks[fst (λx=>sid x=n) s.stocks]?).getD wS
def bF0(s:aJ)(n:Int):Piece:=(s.pieces[fst (λx=>x.id=n) s.pieces]?).getD piece0
theorem eD1{c:Type}{Q:c->Prop}{l:List c}:fst Q l<l.length↔∃m∈l,Q m:=by
 by_cases h:fst Q l<l.length
 ·refine⟨λ_=>?_,λ_=>h⟩
  apply U1;intro d;exact iO.2 (λm a b=>d ⟨m,a,b⟩) h
 ·refine⟨λq=>absurd q h,λ⟨m,a,b⟩=>absurd b (iO.1 h m a)⟩
theorem bH9(s:aJ)(n:Int)(e:s.stocks.length<=1000000):Sp 35 [invV s,I n] (.tup [aQ (bF5 s n),DB (∃m∈s.stocks,sid m=n)]):=by
 refine zsp Tryz.func35 ?_;have a:=eH2 (c:=[I n]) (λx=>bZ9 n x) s.stocks e;have hs:bF5 s n=(s.stocks[fst (λx=>sid x=n) s.stocks]?).getD wS:=rfl
 have hlt:=eD1 (Q:=λx:aN=>sid x=n) (l:=s.stocks);have hi:fstI (λx:aN=>sid x=n) s.stocks=if fst (λx=>sid x=n) s.stocks<s.stocks.length then(fst (λx=>sid x=n) s.stocks:Int)else-1:=rfl
 generalize fstI (λx:aN=>sid x=n) s.stocks=z at*;generalize fst (λx:aN=>sid x=n) s.stocks=k at*;generalize (∃m∈s.stocks,sid m=n)=P at*;have f:(s.stocks.map aQ).length=s.stocks.length:=Af
 conv=>whnf
 refine dJ4 Unit (λ_=>mkSt [(2, .box 2 0),(3, .fp [I n]),(4, .box 4 0),(5,B false)] [(2,invC s),(4,dA5)] []) (λ_=>True) ?_ ?_
 ·exact Ji
 intro _ _;by_cases c:k<s.stocks.length
 ·rw[QO c]at hi
  have hP:P:=hlt.1 c;have d:s.stocks[k]? =some (bF5 s n):=Dl
  rw[hi]at a
  repeat' ((conv=>whnf);first|omega|refine zS ?_|refine zl (λhlt=>?_) (λhlt=>?_))
  all_goals conv=>whnf
  exact NG
 ·rw[Q5 c]at hi
  have hP:¬P:=λh=>c (hlt.2 h);have d:bF5 s n=wS:=C9
  rw[hi]at a;rw[d]
  repeat' ((conv=>whnf);first|omega|refine zS ?_|refine zl (λhlt=>?_) (λhlt=>?_))
  all_goals conv=>whnf
  exact NH
theorem bG3(s:aJ)(n:Int)(e:s.pieces.length<=1000000):Sp 34 [invV s,I n] (.tup [aZ (bF0 s n),DB (∃m∈s.pieces,m.id=n)]):=by
 refine zsp Tryz.func34 ?_;have a:=dY3 (c:=[I n]) (λx=>cC8 n x) s.pieces e;have hs:bF0 s n=(s.pieces[fst (λx=>x.id=n) s.pieces]?).getD piece0:=rfl
 have hlt:=eD1 (Q:=λx:Piece=>x.id=n) (l:=s.pieces);have hi:fstI (λx:Piece=>x.id=n) s.pieces=if fst (λx=>x.id=n) s.pieces<s.pieces.length then(fst (λx=>x.id=n) s.pieces:Int)else-1:=rfl
 generalize fstI (λx:Piece=>x.id=n) s.pieces=z at*;generalize fst (λx:Piece=>x.id=n) s.pieces=k at*;generalize (∃m∈s.pieces,m.id=n)=P at*;have f:(s.pieces.map aZ).length=s.pieces.length:=Af
 conv=>whnf
 refine dJ4 Unit (λ_=>mkSt [(2, .box 2 0),(3, .fp [I n]),(4, .box 4 0),(5,B false)] [(2,invC s),(4,dZ8 piece0)] []) (λ_=>True) ?_ ?_
 ·exact Ji
 intro _ _;by_cases c:k<s.pieces.length
 ·rw[QO c]at hi
  have hP:P:=hlt.1 c;have d:s.pieces[k]? =some (bF0 s n):=Dl
  rw[hi]at a
  repeat' ((conv=>whnf);first|omega|refine zS ?_|refine zl (λhlt=>?_) (λhlt=>?_))
  all_goals conv=>whnf
  exact NG
 ·rw[Q5 c]at hi
  have hP:¬P:=λh=>c (hlt.2 h);have d:bF0 s n=piece0:=C9
  rw[hi]at a;rw[d]
  repeat' ((conv=>whnf);first|omega|refine zS ?_|refine zl (λhlt=>?_) (λhlt=>?_))
  all_goals conv=>whnf
  exact NH
structure Node where
 id:Int
 kind:Int
 parent:Int
 grade:ByteArray
 heat:ByteArray
 part:ByteArray
 size:Int
 gone:Bool
 scrap:Int
def nodeC(x:Node):List V:=[I x.id,I x.kind,I x.parent,S x.grade,S x.heat,S x.part,I x.size,B x.gone,I x.scrap]
def nodeV(x:Node):V:= .agg (nodeC x)
def nodeOf(x:aN)(p:Int):Node:=if x.isBar then⟨x.bar.id,2,p,x.bar.grade,x.bar.heat,aI,gG x,false,0⟩else⟨x.sheet.id,1,p,x.sheet.grade,x.sheet.heat,aI,gG x,false,0⟩
def pieceN(p:Piece)(q:Int):Node:=⟨p.id,3,q,p.grade,p.heat,p.part,p.size,false,0⟩
def addN(f:List Node)(n:Node):List Node:=putAt f (bs Node.id f n.id) n
def goneN(x:Node)(sc:Int):Node:={x with gone:=true,scrap:=sc}
def cutsN(f:List Node)(s:aJ)(l:List Made):List Node:=l.foldl (λf c=>addN f (pieceN (bF0 s c.id) (bF0 s c.id).parent)) f
def restsN(f:List Node)(s:aJ)(n:Int)(l:List Rest):List Node:=l.foldl (λf r=>addN f (nodeOf (bF5 s r.id) n)) f
def growN(f:List Node)(s:aJ)(e:Event):List Node:=restsN (cutsN f s e.cuts) s e.id e.rests
def goneAt(f:List Node)(i:Nat)(e:Event):List Node:=match f[i]? with
 |some x=>f.set i (goneN x (if e.kind=8 then x.size else e.scrap))
 |none=>f
def followN(f:List Node)(s:aJ)(e:Event):List Node:=
 if e.kind=1 then addN f (nodeOf ⟨false,e.sheet,bar0,aI⟩ 0)
 else if e.kind=2 then addN f (nodeOf ⟨true,dN,e.bar,aI⟩ 0)
 else if e.kind=8\/e.kind=5 then growN (goneAt f (bs Node.id f e.id) e) s e else growN f s e
theorem nodeOf_id(x:aN)(p:Int):(nodeOf x p).id=sid x:=by
 unfold nodeOf sid;split<;>rfl
theorem nodeOf_gone(x:aN)(p:Int):(nodeOf x p).gone=false/\(nodeOf x p).scrap=0/\(nodeOf x p).parent=p/\(nodeOf x p).part=aI/\(nodeOf x p).size=gG x:=by
 grind [nodeOf]
def newI(s:aJ)(e:Event):List Int:=if e.kind=1 then [e.sheet.id]else if e.kind=2 then [e.bar.id]else e.cuts.map (λc=>(bF0 s c.id).id)++e.rests.map λr=>sid (bF5 s r.id)
structure FitN(f:List Node)(s:aJ)(e:Event):Prop where
 so:(f.map Node.id).Pairwise (·<·)
 ln:f.length<=1000000
 ex:(e.kind=8\/e.kind=5)->∃x∈f,x.id=e.id
 nw:∀i∈newI s e,∀x∈f,x.id≠i
 df:(newI s e).Pairwise (·≠·)
def fitAll(s:aJ)(f:List Node):List Event->Prop
 | [] =>True
 |e::l=>(appR s e).2=0->FitN f (appR s e).1 e/\fitAll (appR s e).1 (followN f (appR s e).1 e) l
def buildF(s:aJ)(f:List Node)(i:Int):List Event->List Node×Int×Int
 | [] =>(f,i,0)
 |e::l=>if(appR s e).2=0 then buildF (appR s e).1 (followN f (appR s e).1 e) (i+1) l else(f,i,(appR s e).2)
abbrev SortN(f:List Node):Prop:=(f.map Node.id).Pairwise (·<·)
def getN(f:List Node)(n:Int):Option Node:=f.find? λx=>decide (x.id=n)
theorem getN_mem{f:List Node}{n:Int}{x:Node}(h:getN f n=some x):x∈f/\x.id=n:=⟨List.mem_of_find?_eq_some h,by have:=List.find?_some h;simpa using this⟩
theorem getN_some{f:List Node}(d:SortN f){x:Node}(a:x∈f):getN f x.id=some x:=by
 cases h:getN f x.id with
 |none=>exact absurd (List.find?_eq_none.1 h x a) Af
 |some y=>
  obtain⟨b,c⟩:=getN_mem h;rw[bB9 d b a c]
theorem getN_none{f:List Node}{n:Int}:getN f n=none↔∀x∈f,x.id≠n:=by
 unfold getN;rw[List.find?_eq_none];simp
theorem getN_bs{f:List Node}(c:SortN f){n:Int}{x:Node}(h:getN f n=some x):f[bs Node.id f n]? =some x:=by
 obtain⟨a,b⟩:=getN_mem h;obtain⟨y,d,e⟩:=aB8 c ⟨x,a,b⟩;rw[d,bB9 c (fC d) a (by rw[e,b])]
theorem getN_ex{f:List Node}{n:Int}:(∃x∈f,x.id=n)↔∃x,getN f n=some x:=by
 constructor
 ·rintro⟨x,a,e⟩
  cases h:getN f n with
  |none=>exact absurd e (getN_none.1 h x a)
  |some y=>exact⟨y,rfl⟩
 ·rintro⟨x,a⟩
  exact⟨x,getN_mem a⟩
def climbR(f:List Node):Nat->Node->Bool
 |0,x=>decide (x.parent=0)
 |k+1,x=>if x.parent=0 then true else match getN f x.parent with
  |some y=>climbR f k y
  |none=>false
def chainR(f:List Node):Nat->Node->List Node
 |0,x=> [x]
 |k+1,x=>if x.parent=0 then [x]else match getN f x.parent with
  |some y=>x::chainR f k y
  |none=> [x]
def ownP(x:Node):Prop:=1<=x.id/\1<=x.kind/\x.kind<=3/\1<=x.size/\0<=x.scrap/\x.scrap<=x.size/\(x.gone=false->x.scrap=0)/\
 (x.kind=3->iM x.part/\x.parent≠0/\x.gone=false)/\(x.kind≠3->x.part=aI)
def linkN(x p:Node):Prop:=p.gone=true/\p.grade=x.grade/\p.heat=x.heat/\(x.kind=3\/x.kind=p.kind)
def ksum(f:List Node)(n:Int):Int:=(f.map λx=>if x.parent=n then x.size else 0).sum
def parN(f:List Node)(x:Node):Prop:=x.parent≠0->∃p,getN f x.parent=some p/\linkN x p
structure RightF(f:List Node):Prop where
 own:∀x∈f,ownP x
 so:SortN f
 par:∀x∈f,parN f x
 up:∀x∈f,climbR f f.length x=true
 sum:∀g∈f,g.gone=true->ksum f g.id=g.size-g.scrap
theorem chain_mono{f:List Node}:∀ {k:Nat} {x:Node},climbR f k x=true->chainR f (k+1) x=chainR f k x
 |0,x,h=>by
  simp_all [QO,Q9,climbR,chainR]
 |k+1,x,h=>by
  unfold climbR at h;rw[chainR,chainR];by_cases c:x.parent=0
  ·rw[QO c,QO c]
  ·rw[Q5 c]at h
   rw[Q5 c,Q5 c];cases a:getN f x.parent<;>simp_all [chain_mono]
theorem chain_len{f:List Node}:∀ {k:Nat} {x:Node},1<=(chainR f k x).length/\(chainR f k x).length<=k+1
 |0,x=>⟨QV _,QV _⟩
 |k+1,x=>by
  unfold chainR;split
  ·exact⟨QV _,Af⟩
  ·split
   ·simp_all [chain_len,Rf]
   ·exact⟨QV _,Af⟩
def chN(f:List Node)(x:Node):List Node:=chainR f f.length x
theorem ch_root{f:List Node}{x:Node}(a:x.parent=0):chN f x=[x] :=by
 unfold chN;cases f.length<;>simp_all [QO,chainR]
theorem ch_step{f:List Node}(h:∀x∈f,climbR f f.length x=true){x y:Node}(a:x∈f)(b:x.parent≠0)(g:getN f x.parent=some y):chN f x=x::chN f y:=by
 have c:=h x a;have e:0<f.length:=List.length_pos_of_mem a
 obtain⟨k,d⟩:∃k,f.length=k+1:=⟨f.length-1,Aa⟩;simp_all [Q5,chain_mono,chN,climbR,chainR]
theorem ch_self{f:List Node}{x:Node}:∃l,chN f x=x::l:=Ky
theorem ch_le{f:List Node}{x:Node}:(chN f x).length<=f.length+1:=chain_len.2
section
variable{f:List Node}(h:RightF f)
include h
theorem par_get{x:Node}(c:x∈f)(b:x.parent≠0):∃y,getN f x.parent=some y/\y∈f/\y.id=x.parent/\linkN x y/\chN f x=x::chN f y:=by
 obtain⟨y,a,g⟩:=h.par x c b;obtain⟨d,e⟩:=getN_mem a;exact⟨y,a,d,e,g,ch_step h.up c b a⟩
theorem ch_in:∀(n:Nat) {x y:Node},x∈f->(chN f x).length<=n->y∈chN f x->y∈f/\(chN f y).length<=(chN f x).length
 |0,x,y,b,c,a=>by
  simp_all
 |n+1,x,y,b,c,a=>by
  by_cases d:x.parent=0
  ·rw[ch_root d]at a
   rw[QW.1 a];exact⟨b,QV _⟩
  ·obtain⟨p,j,g,k,l,e⟩:=par_get h b d
   rw[e]at a c⊢;rcases Rh.1 a with rfl|a
   ·exact⟨b,by rw[e];exact QV _⟩
   ·simp only[Rf]at c⊢
    obtain⟨i,m⟩:=ch_in n g Aa a;exact⟨i,Aa⟩
theorem ch_child{x p:Node}(b:x∈f)(a:p∈f)(e:x.parent=p.id):chN f x=x::chN f p:=by
 have g:=(h.own p a).1;obtain⟨y,i,c,j,k,d⟩:=par_get h b Aa;rw[d,bB9 h.so c a Aa]
end
def underN(f:List Node)(x:Node)(n:Int):Prop:=∃y∈chN f x,y.id=n
open Classical in
def ind(p:Prop):Int:=if p then 1 else 0
theorem ind_t{p:Prop}(h:p):ind p=1:=QO h
theorem ind_f{p:Prop}(h:¬p):ind p=0:=Q5 h
def kidsN(f:List Node)(n:Int):List Node:=f.filter λx=>decide (x.parent=n)
theorem mem_kids{f:List Node}{n:Int}{x:Node}:x∈kidsN f n↔x∈f/\x.parent=n:=by unfold kidsN;simp
theorem sum_zero{a:Type}{g:a->Int}:∀ {l:List a},(∀x∈l,g x=0)->(l.map g).sum=0
 | [],_=>rfl
 |x::l,h=>by rw[Rq,TF,h x (by simp),sum_zero (λy b=>h y (by simp[b]))];rfl
theorem sum_add{a:Type}{g k:a->Int}:∀ {l:List a},(l.map λx=>g x+k x).sum=(l.map g).sum+(l.map k).sum
 | [] =>rfl
 |x::l=>by rw[Rq,TF,sum_add (l:=l),Rq,TF,Rq,TF];omega
theorem sum_congr{a:Type}{g k:a->Int}{l:List a}(h:∀x∈l,g x=k x):(l.map g).sum=(l.map k).sum:=by rw[Tc h]
theorem sum_swap{a β:Type}(g:a->β->Int)(m:List β):∀(l:List a),(l.map λx=>(m.map λy=>g x y).sum).sum=(m.map λy=>(l.map λx=>g x y).sum).sum
 | [] =>by rw[SC,List.sum_nil];exact(sum_zero (λy _=>rfl)).symm
 |x::l=>by
  rw[Rq,TF,sum_swap g m l,<-sum_add];simp_all
theorem sum_one{c:Type}{key:c->Int}:∀ {l:List c},(l.map key).Pairwise (·<·)->∀ {x:c},x∈l->(l.map λy=>ind (key x=key y)).sum=1
 | [],_,x,h=>Ah
 |y::l,b,x,a=>by
  rw[Rq,Sl]at b;rw[Rq,TF];rcases Rh.1 a with rfl|a
  ·grind [ind_t,sum_zero,RJ,ind_f]
  ·have:=b.1 (key x) (RJ a)
   rw[ind_f Aa,sum_one b.2 a];rfl
theorem kids_sorted{f:List Node}(h:SortN f)(n:Int):SortN (kidsN f n):=h.sublist ((List.filter_sublist).map Node.id)
theorem under_split{f:List Node}(h:RightF f){n:Node}(q:n∈f):∀(k:Nat) {x:Node},x∈f->(chN f x).length<=k->ind (underN f x n.id)=ind (x.id=n.id)+((kidsN f n.id).map λc=>ind (underN f x c.id)).sum
 |0,x,a,u=>by
  obtain⟨l,e⟩:=ch_self (f:=f) (x:=x);simp_all
 |k+1,x,a,u=>by
  have D:=(h.own n q).1;by_cases j:x.id=n.id
  ·have e:x=n:=bB9 h.so a q j
   subst e;rw[ind_t rfl,ind_t (p:=underN f x x.id),sum_zero]
   ·rfl
   ·intro c d
    obtain⟨b,m⟩:=mem_kids.1 d;refine ind_f ?_;rintro⟨y,i,e⟩;obtain⟨s,z⟩:=ch_in h _ a (QV _) i;have:y=c:=bB9 h.so s b e;grind [ch_child,Rf]
   ·exact MR
  ·rw[ind_f j,UR]
   by_cases t:x.parent=0
   ·have C:=ch_root (f:=f) t
    rw[ind_f,sum_zero]
    ·intro c d
     obtain⟨b,m⟩:=mem_kids.1 d;refine ind_f ?_;rintro⟨y,i,e⟩;rw[C]at i;rw[QW.1 i]at e;have:x=c:=bB9 h.so a b e;subst this;omega
    ·rintro⟨y,i,e⟩;simp_all
   ·obtain⟨p,F,v,G,H,w⟩:=par_get h a t
    have o:(chN f p).length<=k:=by rw[w,Rf]at u;omega
    have E:=under_split h q k v o
    have A:underN f x n.id↔underN f p n.id:=by
     unfold underN;simp_all
    have B:∀c∈kidsN f n.id,ind (underN f x c.id)=ind (x.id=c.id)+ind (underN f p c.id):=by
     intro c d;obtain⟨b,m⟩:=mem_kids.1 d;by_cases r:x.id=c.id
     ·have:x=c:=bB9 h.so a b r
      subst this;rw[ind_t rfl,ind_t,ind_f]
      ·rfl
      ·rintro⟨y,i,e⟩
       obtain⟨s,z⟩:=ch_in h _ v (QV _) i;have:y=x:=bB9 h.so s a e;subst this;rw[w,Rf]at z;omega
      ·exact MR
     ·simp_all [ind_f,UR,Rh,Tj,underN]
    rw[show underN f x n.id=underN f p n.id from propext A,E,sum_congr B,sum_add];congr 1;by_cases g:p.id=n.id
    ·rw[ind_t g,sum_one (key:=Node.id) (kids_sorted h.so n.id) (mem_kids.2 ⟨a,Aa⟩)]
    ·rw[ind_f g,sum_zero]
     intro c d;obtain⟨b,m⟩:=mem_kids.1 d;refine ind_f λe=>g ?_;have:x=c:=bB9 h.so a b e
     subst this;omega
def allU(f:List Node)(g:Node->Int)(n:Int):Int:=(f.map λx=>ind (underN f x n)*g x).sum
theorem allU_step{f:List Node}(h:RightF f)(g:Node->Int){n:Node}(a:n∈f):allU f g n.id=g n+((kidsN f n.id).map λc=>allU f g c.id).sum:=by
 unfold allU;rw[<-sum_swap (λx c=>ind (underN f x c.id)*g x) (kidsN f n.id) f]
 have e:∀x∈f,ind (underN f x n.id)*g x=ind (x.id=n.id)*g x+((kidsN f n.id).map λc=>ind (underN f x c.id)*g x).sum:=by
  intro x b;rw[under_split h a _ b (QV _),Int.add_mul];congr 1;generalize kidsN f n.id=l
  induction l<;>grind
 rw[sum_congr e,sum_add];congr 1
 have d:∀x∈f,ind (x.id=n.id)*g x=ind (n.id=x.id)*g n:=by
  intro x b;by_cases c:x.id=n.id
  ·rw[ind_t c,ind_t c.symm,bB9 h.so b a c]
  ·rw[ind_f c,ind_f (λq=>c q.symm)];simp
 rw[sum_congr d];have i:=sum_one (key:=Node.id) h.so a
 have j:∀l:List Node,(l.map λx=>ind (n.id=x.id)*g n).sum=(l.map λx=>ind (n.id=x.id)).sum*g n:=by
  intro l
  induction l<;>grind
 rw[j,i,Int.one_mul]
def visitR(f:List Node)(g:Node->Int):Nat->Node->Int
 |0,n=>g n
 |k+1,n=>g n+((kidsN f n.id).map λc=>visitR f g k c).sum
theorem visit_all{f:List Node}(h:RightF f)(g:Node->Int):∀(k:Nat) {n:Node},n∈f->f.length+1<=k+(chN f n).length->visitR f g k n=allU f g n.id
 |0,n,a,i=>by
  rw[allU_step h g a]
  have:kidsN f n.id=[] :=by
   cases d:kidsN f n.id with
   |nil=>rfl
   |cons c l=>
    obtain⟨b,e⟩:=mem_kids.1 (show c∈kidsN f n.id by rw[d];simp)
    have:=ch_le (f:=f) (x:=c);grind [ch_child,Rf]
  rw[this];show g n=g n+0;omega
 |k+1,n,a,i=>by
  rw[allU_step h g a];unfold visitR;congr 1;refine sum_congr λc d=>?_;obtain⟨b,e⟩:=mem_kids.1 d;refine visit_all h g k b ?_;rw[ch_child h b a e,Rf];omega
end Go.Proofs.Led
namespace Go.Proofs.Led
open Go Go.Proofs Go.Ab Go.RowKit Go.Lib
theorem elG:ElT 25 42 9 96:=⟨Tryz.underlying25,Q9 Ac,Ac,Ac,Ai,Ai⟩
theorem ovG:OvT 174 42:=λw b vb i g f vc cur a d hb hv c=>by
 rw[U8 Tryz.func174 Ac Ac Ac (e:=Extern.SlicesOverlaps.overlaps #[25,25] #[4]) Ac,
  Lib.run_overlaps_apart w 25 4 42 Tryz.underlying25 9 Tryz.sizeOf42 ⟨vb,0,none⟩ ⟨b,i,none⟩ 1 vc g f d 42 42 a.size cur.size FN FO c Ce Ce]
 rfl
theorem insG_all:InsShift 127 42 9/\InsEnd 127 42 9/\InsEndG 127 25 42/\InsGrow 127 25 42 9:=by
 have el:=elG;have U:=ovG
 have fF:=Tryz.func127;have nF:=Tryz.ntmps127
 have zE:=Tryz.sizeOf42;have uS:=Rw Tryz.underlying25
 have V:=S9;have W:=Tn;have Y:=Rw S9;have Z:=Rw Tn
 have mixed:=mixed;refine⟨?_,?_,?_,?_⟩
 ·intro b n c i vb vc cur e w hi hroom o hvb hb hv hbs hvs s h2
  have E:=λT S M=>U w b vb T S M vc cur e hvb hb hv Aa;obtain⟨X1,d,q,hcp2⟩:=el.shift (b:=b) (vb:=vb) (vc:=vc) hi hroom hbs hvs s h2;rw[<-d];clear d;have H:IntKind.i64.wrap ((i:Int)+1)=(i:Int)+1:=Aw
  have I:IntKind.i64.wrap ((n:Int)+1)=(n:Int)+1:=Aw;have J:¬((i:Int)=(n:Int)):=Aa
  have v:(0:Int)<=(i:Int)+1:=Aa;have G:((i:Int)+1).toNat=i+1:=Aa
  have L:((n:Int)+1).toNat=n+1:=Aa;have C:i<=n:=Aa
  have x:¬(c=i+1):=Aa;have y:(i:Int)<=(n:Int)+1:=Aa
  have z:¬(c=i):=Aa;have A:¬((c:Int)< (n:Int)+1):=Aa
  go_enter fF,nF
  go_wp2_with (simp only[E])
  have l:=q w.drew _ _ (n-i) (n+1-i) 3 (c- (i+1)) (c-i) hb rfl rfl Dp
  try simp only[Uo]at l
  go_region_law_o (refine step_copy_runI rfl _ _ _ _ rfl _ _ A7 A7 l ?_)
  exact Nu
 ·intro b n c vb vc cur e w hroom o hb hv hbs hvs h2
  exact N8
 ·intro k n c j vb vc X w r hroom m hn hA
  go_enter fF,nF
  cases k with
  |none=>exact IZ
  |some a=>exact Ja
 ·intro b n c j i vb vc cur e R w hi r hroom m B hle hb hv hbs u hvs s h2 F
  have hbw:b<w.heap.size:=(Rj.1 hb).1;have hvw:vb<w.heap.size:=(Rj.1 hv).1
  obtain⟨X1,d,f,g⟩:=el.grow (b:=b) (vb:=vb) (vc:=vc) (N:=w.heap.size) hi r B hbs u hvs s h2;obtain⟨t,hO⟩:=el.nw w R;have hA:=f _ _ (n+1-i) 3 (j-i) t FC rfl Aa;have K:=g ((World.setRow _ w.heap.size X1).drew) _ _ (n-i) (n-i) 3 (j- (i+1)) (c-i) (TB _ w.heap.size R X1 _ _ t) ((Ti _ w.heap.size b X1 Aa).trans FP) rfl rfl (Nat.min_self _)
  rw[<-d];clear d f g t hO;have H:IntKind.i64.wrap ((i:Int)+1)=(i:Int)+1:=Aw;have I:IntKind.i64.wrap ((n:Int)+1)=(n:Int)+1:=Aw
  have Q:IntKind.i64.wrap ((n:Int)+1- (i:Int))=(n:Int)+1- (i:Int):=Aw;have J:¬((i:Int)=(n:Int)):=Aa
  have v:(0:Int)<=(i:Int)+1:=Aa;have G:((i:Int)+1).toNat=i+1:=Aa
  have C:i<=n:=Aa;have x:¬(j=i+1):=Aa
  have y:(i:Int)<=(n:Int)+1:=Aa;have z:¬(c=i):=Aa
  have A:(c:Int)< (n:Int)+1:=Aa;have O:¬(j=i):=Aa
  have P:(i:Int)<=(c:Int):=Aa;have D:j<=9223372036854775807:=EG
  try simp only[Uo]at hA K
  go_enter fF,nF
  go_wp2_with (first|simp only[hA,Rt] |(at_builtin;refine Lib.wpList_append_run _ rfl _ _ _ _ rfl _ _ rfl rfl _ _ (F _) ?_))
  go_region_law_o (refine step_copy_runI rfl _ _ _ _ rfl _ _ A7 A7 K ?_)
  go_wp2
  go_ret
  first|exact⟨rfl,rfl⟩|exact⟨rfl,Be⟩
theorem insG_spec(l:List V)(x:V)(i:Nat)(hi:i<=l.length)(a:l.length<=1000000000):Sp 127 [.own 42 l,I i, .own 42 [x]] (.own 42 (l.take i++x::l.drop i)):=
 ins_gen elG Ac insG_all.1 insG_all.2.1 insG_all.2.2.1 insG_all.2.2.2 l x i hi a
end Go.Proofs.Led
namespace Go.Proofs.Led
open Go Go.Proofs Go.Ab
theorem ndB_vc{g:FuncId}{t:Int}(v:∀m:Node,Sp g [nodeV m,I t] (I (cmpI (Node.id m) t)))(l:List Node)(J:l.length<=1000000)(u:(l.map Node.id).Pairwise (·<·)):fnVC T Tryz.prog Tryz.f100 [.sl (l.map nodeV),I t, .fn g []] (.tup [I (bs Node.id l t),DB (∃m∈l,Node.id m=t)]):=by
 have F:(l.map nodeV).length=l.length:=Af
 repeat' ((conv=>whnf);first|refine zS ?_|refine zm (λx hx=>?_)|refine zT ?_ ?_<;>intro _|fail)
 refine aU (A:=Nat) (B:=Nat) (λi j=>mkSt [(0, .sl (l.map nodeV)),(1,I t),(2, .fn g []),(8,I l.length),(9,I i),(10,I j)] [] []) (λi j=>i<=j/\j<=l.length/\(∀k m,k<i->l[k]? =some m->Node.id m<t)/\∀k m,j<=k->l[k]? =some m->t<=Node.id m) (λi j=>j-i) 0 l.length ?_ ⟨Aa,Aa,λk m hk=>absurd hk Aa,λk m hk hm=>CJ⟩ (λi j G=>?_)
 ·exact zj
 obtain⟨E,H,f,o⟩:=G;have c:i<=l.length:=Aa;by_cases w:i<j
 ·have D:(i+j)/2<l.length:=by omega
  have hm2:=QS D;generalize l[(i+j)/2] =m at hm2;have C:=v m
  have z:(i+j)/2<j:=Aa
  repeat' ((conv=>whnf);first|omega|refine fK (k:= .u64) (n:=(i:Int)+(j:Int)) (m:=(i:Int)+(j:Int)) (cD4 Aa) ?_|refine fK (k:= .i64) (n:=shrI .u64 ((i:Int)+(j:Int)) 1) (m:=(((i+j)/2:Nat):Int)) (bF1 Aa) ?_|refine zS ?_|refine zm (λx hx=>?_)|refine zT ?_ ?_<;>intro _|fail)
  all_goals conv=>whnf
  ·have hc:=cK6.1 Ag
   refine⟨((i+j)/2+1,j),?_,⟨Aa,Aa,λk y hk hy=>?_,o⟩,Aa⟩
   ·exact zj
   ·rcases RX k ((i+j)/2)with h|h
    ·exact Int.lt_trans (sorted_at u hy hm2 h) hc
    ·exact Jh
  ·have hc:=aU8.1 Ag
   refine⟨(i,(i+j)/2),?_,⟨Aa,Aa,f,λk y hk hy=>?_⟩,Aa⟩
   ·exact zj
   ·rcases RX ((i+j)/2) k with h|h
    ·exact Int.le_of_lt (Int.lt_of_le_of_lt hc (sorted_at u hm2 hy h))
    ·exact Jh
 ·have e:j=i:=by omega
  subst e;have r:=dC0 c f (λm hm=>o j m (QV _) hm);have a:=eC8 u f (λm hm=>o j m (QV _) hm)
  rw[r];generalize (∃m∈l,Node.id m=t)=P at*;by_cases s:j<l.length
  ·have hm2:=QS s
   generalize l[j] =m at hm2;have C:=v m;have q:P↔Node.id m=t:=a.1 m hm2
   have d:DB P=V.lit (.bool (eqB (cmpI (Node.id m) t) 0)):=Ry (λb=>V.lit (.bool b)) (sK (bP6.trans q.symm)).symm;rw[d];exact Nr
  ·have q:¬P:=a.2 (Tt Aa)
   have d:DB P=V.lit (.bool false):=Ry (λb=>V.lit (.bool b)) (dW.2 q);rw[d];exact Nr
theorem ndB_spec{g:FuncId}{t:Int}(a:∀m:Node,Sp g [nodeV m,I t] (I (cmpI (Node.id m) t)))(l:List Node)(b:l.length<=1000000)(c:(l.map Node.id).Pairwise (·<·)):Sp 100 [.sl (l.map nodeV),I t, .fn g []] (.tup [I (bs Node.id l t),DB (∃m∈l,Node.id m=t)]):=zsp Tryz.func100 (ndB_vc a l b c)
theorem findNF_spec(x:Node)(t:Int):Sp 101 [nodeV x,I t] (I (cmpI x.id t)):=by
 refine zsp Tryz.func101 ?_;have a:=aB9 x.id t;exact Po
theorem findN_spec(f:List Node)(n:Int)(a:f.length<=1000000)(b:SortN f):Sp 47 [.sl (f.map nodeV),I n] (.tup [I (bs Node.id f n),DB (∃m∈f,m.id=n)]):=by
 refine zsp Tryz.func47 ?_;have c:=ndB_spec (g:=101) (t:=n) (λm=>findNF_spec m n) f a b;generalize bs Node.id f n=k at*;generalize (∃m∈f,m.id=n)=P at*;exact Po
theorem putG_spec(l:List Node)(i:Nat)(x:Node)(hi:i<=l.length)(hl:l.length<=1000000000):Sp 127 [.own 42 (l.map nodeV),I i, .own 42 [nodeV x]] (.own 42 ((putAt l i x).map nodeV)):=by
 have h:=insG_spec (l.map nodeV) (nodeV x) i H9 BF;rw[aR0]at h;exact h
theorem addG_spec(f:List Node)(x:Node)(c:f.length<=1000000)(d:SortN f):Sp 83 [.own 42 (f.map nodeV),nodeV x] (.own 42 ((addN f x).map nodeV)):=by
 refine zsp Tryz.func83 ?_;have a:=findN_spec f x.id c d;have b:=putG_spec f (bs Node.id f x.id) x (bQ8 _ _ _) Aa
 unfold addN;generalize bs Node.id f x.id=k at*;generalize (∃m∈f,m.id=x.id)=P at*
 repeat' ((conv=>whnf);first|(refine aS5 (a) true ?_ rfl ?_;focus ((repeat' (first|exact trivial|refine And.intro ?_ ?_|with_reducible rfl|exact(λh=>Ah)|exact rfl));done))|refine zh (xX b) [] ?_|refine zS ?_|refine zm (λx e=>?_)|refine zT ?_ ?_<;>intro _|fail)
 all_goals exact zE
theorem stockNode_spec(x:aN)(p:Int)(a:eY x):Sp 84 [aQ x,I p] (nodeV (nodeOf x p)):=by
 refine zsp Tryz.func84 ?_;have d:=vF x a;unfold nodeOf;generalize gG x=z at*;obtain⟨b,s,c,q⟩:=x;cases b;all_goals simp only[Bool.false_eq_true,Ul,TY]
 ·repeat' ((conv=>whnf);first|(exfalso;contradiction)|refine eZ1 Aj ?_|refine zS ?_|refine zm (λx a=>?_)|refine zT ?_ ?_<;>intro _|fail)
  all_goals exact zE
 ·repeat' ((conv=>whnf);first|(exfalso;contradiction)|refine cC0 [(2,2),(5,5),(21,2),(22,2),(24,2),(25,2),(27,2),(28,2),(30,5),(31,5),(32,5),(33,5)] Ad Aj ?_|refine eZ1 Aj ?_|refine zS ?_|refine zm (λx a=>?_)|refine zT ?_ ?_<;>intro _|fail)
  all_goals exact zE
theorem le_refl{T:Tab}{σ:St}:Le T σ σ:=by
 unfold Le;exact λΦ a w G inv=>⟨G,inv⟩
theorem loop_0{T:Tab}{σ:St}{x:aA2}{Q:Exit->St->Prop}(h:x σ λe a=>match e with
 | .normal=>∃p':Unit,Le T a σ/\True/\0<0
 |e=>Q e a):bI0 T x σ Q:=lD (A:=Unit) (λ_=>σ) (λ_=>True) (λ_=>0) () le_refl trivial (λ_ _=>h)
theorem cutsN_snoc(f:List Node)(s:aJ)(D:List Made)(c:Made):cutsN f s (D++[c])=addN (cutsN f s D) (pieceN (bF0 s c.id) (bF0 s c.id).parent):=by unfold cutsN;simp
theorem restsN_snoc(f:List Node)(s:aJ)(n:Int)(D:List Rest)(r:Rest):restsN f s n (D++[r])=addN (restsN f s n D) (nodeOf (bF5 s r.id) n):=by unfold restsN;simp
theorem map_set2(f:List Node)(k:Nat)(x y:Node):((f.map nodeV).set ((k:Int)).toNat (nodeV y)).set ((k:Int)).toNat (nodeV x)=(f.set k x).map nodeV:=by
 simp_all
theorem map_set3(f:List Node)(k:Nat)(x y z:Node):(((f.map nodeV).set ((k:Int)).toNat (nodeV z)).set ((k:Int)).toNat (nodeV y)).set ((k:Int)).toNat (nodeV x)=(f.set k x).map nodeV:=by
 simp_all
def folA(s:aJ)(e:Event)(F:List Node)(D:List Made):St:=mkSt [(0, .arr 0 D.length),(4, .box 4 0),(5, .box 5 0),(68, .sl (e.cuts.map dK)),(69,I e.cuts.length),(70,I D.length)] [(4,invC s),(5,iJ e)] [(0,⟨D.length, .own,42,F.map nodeV⟩)]
def folB(s:aJ)(e:Event)(F:List Node)(g:Nat)(D:List Rest):St:=mkSt [(0, .arr 0 (g+D.length)),(4, .box 4 0),(5, .box 5 0),(98, .sl (e.rests.map bY)),(99,I e.rests.length),(100,I D.length)] [(4,invC s),(5,iJ e)] [(0,⟨g+D.length, .own,42,F.map nodeV⟩)]
structure FolOk(f:List Node)(s:aJ)(e:Event):Prop where
 so:SortN f
 ln:f.length<=1000000
 ev:iY e
 lp:s.pieces.length<=1000000
 ls:s.stocks.length<=1000000
 sz:∀n,eY (bF5 s n)
 sh:e.kind=1->lK e.sheet
 no:e.kind≠5->e.cuts=[]/\e.rests=[]
theorem fol1_vc(f:List Node)(s:aJ)(e:Event)(h:FolOk f s e)(a:e.kind=1):fnVC T Tryz.prog Tryz.f40 [.own 42 (f.map nodeV),invV s,aS e] (.own 42 ((followN f s e).map nodeV)):=by
 have b:=stockNode_spec ⟨false,e.sheet,bar0,aI⟩ 0 ⟨h.sh a,RI _⟩;have c:=addG_spec f (nodeOf ⟨false,e.sheet,bar0,aI⟩ 0) h.ln h.so
 unfold followN;rw[QO a];exact Nr
theorem fol2_vc(f:List Node)(s:aJ)(e:Event)(h:FolOk f s e)(a:e.kind=2):fnVC T Tryz.prog Tryz.f40 [.own 42 (f.map nodeV),invV s,aS e] (.own 42 ((followN f s e).map nodeV)):=by
 have b:=stockNode_spec ⟨true,dN,e.bar,aI⟩ 0 ⟨xZ,h.ev.br⟩;have c:=addG_spec f (nodeOf ⟨true,dN,e.bar,aI⟩ 0) h.ln h.so
 unfold followN;rw[Q5 Aa,QO a];exact Nr
theorem fol8_vc(f:List Node)(s:aJ)(e:Event)(x:Node)(h:FolOk f s e)(hk:e.kind=8)(hx:f[bs Node.id f e.id]? =some x):fnVC T Tryz.prog Tryz.f40 [.own 42 (f.map nodeV),invV s,aS e] (.own 42 ((followN f s e).map nodeV)):=by
 obtain⟨c1,c2⟩:=h.no Aa;have b:=findN_spec f e.id h.ln h.so;have c:=(QR.1 hx).1
 have hll:(f.map nodeV).length=f.length:=Af;have d:=h.ln
 have a:followN f s e=f.set (bs Node.id f e.id) (goneN x x.size):=Lm;have g:(e.cuts.map dK).length=0:=by rw[c1];rfl
 have i:(e.rests.map bY).length=0:=by rw[c2];rfl
 rw[a,<-map_set3 f _ (goneN x x.size) {x with gone:=true,scrap:=e.scrap} {x with gone:=true}];clear a h c1 c2;generalize bs Node.id f e.id=k at*;generalize (∃m∈f,m.id=e.id)=P at*
 repeat' ((conv=>whnf);first|omega|refine cC0 [(0,77777),(5,5),(45,77777),(47,77777),(49,5),(51,77777),(52,77777),(53,77777),(54,77777)] Ad Aj ?_|(refine aS5 (b) true ?_ rfl ?_;focus ((repeat' (first|exact trivial|refine And.intro ?_ ?_|with_reducible rfl|exact(λh=>Ah)|exact rfl));done))|refine dS rfl rfl BU ?_|refine dS rfl rfl BZ ?_|refine dB8 rfl rfl ?_|refine cV1 rfl Gm ?_|refine loop_0 ?_|refine zS ?_|refine zm (λx hx=>?_)|refine zT ?_ ?_<;>intro _|fail)
 all_goals exact zE
theorem fol5_vc(f F0:List Node)(s:aJ)(e:Event)(x:Node)(h:FolOk f s e)(hk:e.kind=5)(hx:f[bs Node.id f e.id]? =some x)(hF:F0=f.set (bs Node.id f e.id) (goneN x e.scrap))
 (r:∀D R,e.cuts=D++R->SortN (cutsN F0 s D)/\(cutsN F0 s D).length<=1000000)(z:∀D R,e.rests=D++R->SortN (restsN (cutsN F0 s e.cuts) s e.id D)/\(restsN (cutsN F0 s e.cuts) s e.id D).length<=1000000):
 fnVC T Tryz.prog Tryz.f40 [.own 42 (f.map nodeV),invV s,aS e] (.own 42 ((followN f s e).map nodeV)):=by
 have v:=findN_spec f e.id h.ln h.so;have E:=(QR.1 hx).1
 have hll:(f.map nodeV).length=f.length:=Af;have F:=h.ln
 have C:=h.ev.ct;have H:=h.ev.rs
 have i:(e.cuts.map dK).length=e.cuts.length:=Af;have j:(e.rests.map bY).length=e.rests.length:=Af
 have q:followN f s e=restsN (cutsN F0 s e.cuts) s e.id e.rests:=KU;have u:F0.map nodeV=((f.map nodeV).set ((bs Node.id f e.id:Nat):Int).toNat (nodeV {x with gone:=true})).set ((bs Node.id f e.id:Nat):Int).toNat (nodeV (goneN x e.scrap)):=by rw[hF,map_set2]
 rw[q];have G:=h.lp;have J:=h.ls
 have K:=h.sz;clear q h hF;generalize bs Node.id f e.id=k at*;generalize (∃m∈f,m.id=e.id)=P at*
 repeat' ((conv=>whnf);first|omega|refine cC0 [(0,77777),(5,5),(45,77777),(47,77777),(49,5),(51,77777),(52,77777),(53,77777),(54,77777)] Ad Aj ?_|(refine aS5 (v) true ?_ rfl ?_;focus ((repeat' (first|exact trivial|refine And.intro ?_ ?_|with_reducible rfl|exact(λh=>Ah)|exact rfl));done))|refine dS rfl rfl BU ?_|refine dS rfl rfl BZ ?_|refine dB8 rfl rfl ?_|refine cV1 rfl Gm ?_|refine zS ?_|refine zm (λx hx=>?_)|refine zT ?_ ?_<;>intro _|fail)
 refine aU (A:=List Made) (B:=List Made) (λD R=>folA s e (cutsN F0 s D) D) (λD R=>e.cuts=D++R) (λD R=>R.length) [] e.cuts ?_ rfl (λD R hp2=>?_)
 ·show Le T _ (mkSt [(0, .arr 0 0),(4, .box 4 0),(5, .box 5 0),(68, .sl (e.cuts.map dK)),(69,I e.cuts.length),(70,I 0)] [(4,invC s),(5,iJ e)] [(0,⟨0, .own,42,F0.map nodeV⟩)])
  rw[u,<-i];exact zj
 cases R with
 |cons c R=>
  have d:=aO hp2;have g:((D++[c]).length:Int)=(D.length:Int)+1:=Af
  obtain⟨n,o⟩:=r D (c::R) hp2;have w:=bG3 s c.id G;have y:=addG_spec (cutsN F0 s D) (pieceN (bF0 s c.id) (bF0 s c.id).parent) o n
  have b:=cutsN_snoc F0 s D c;generalize bF0 s c.id=l at*;generalize (∃m∈s.pieces,m.id=c.id)=Q at*;generalize addN (cutsN F0 s D) (pieceN l l.parent)=t at*;generalize cutsN F0 s D=a at*
  repeat' ((conv=>whnf);first|omega|refine zS ?_|refine zm (λx hx=>?_)|refine zT ?_ ?_<;>intro _|fail)
  all_goals conv=>whnf
  refine⟨(D++[c],R),?_,CZ,Af⟩;show Le T _ (folA s e (cutsN F0 s (D++[c])) (D++[c]));rw[b];unfold folA;exact Nj
 |nil=>
  have d:e.cuts.length=D.length:=CZ;have eD:e.cuts=D:=CZ
  clear r;rw[<-eD]at*;clear hp2 eD;generalize cutsN F0 s e.cuts=a at*
  repeat' ((conv=>whnf);first|omega|refine zS ?_|refine zm (λx hx=>?_)|refine zT ?_ ?_<;>intro _|fail)
  refine aU (A:=List Rest) (B:=List Rest) (λD R=>folB s e (restsN a s e.id D) e.cuts.length D) (λD R=>e.rests=D++R) (λD R=>R.length) [] e.rests ?_ rfl (λD R hp2=>?_)
  ·show Le T _ (mkSt [(0, .arr 0 e.cuts.length),(4, .box 4 0),(5, .box 5 0),(98, .sl (e.rests.map bY)),(99,I e.rests.length),(100,I 0)] [(4,invC s),(5,iJ e)] [(0,⟨e.cuts.length, .own,42,a.map nodeV⟩)])
   rw[<-j];exact zj
  cases R with
  |cons c R=>
   have hlen2:=aO hp2;have g:((D++[c]).length:Int)=(D.length:Int)+1:=Af
   obtain⟨n,o⟩:=z D (c::R) hp2;have w:=bH9 s c.id J;have y:=stockNode_spec (bF5 s c.id) e.id (K c.id)
   have M:=addG_spec (restsN a s e.id D) (nodeOf (bF5 s c.id) e.id) o n;have b:=restsN_snoc a s e.id D c
   generalize addN (restsN a s e.id D) (nodeOf (bF5 s c.id) e.id)=L at*;generalize nodeOf (bF5 s c.id) e.id=N at*;generalize bF5 s c.id=l at*;generalize (∃m∈s.stocks,sid m=c.id)=Q at*;generalize restsN a s e.id D=t at*
   repeat' ((conv=>whnf);first|omega|refine zS ?_|refine zm (λx hx=>?_)|refine zT ?_ ?_<;>intro _|fail)
   all_goals conv=>whnf
   refine⟨(D++[c],R),?_,CZ,Af⟩;show Le T _ (folB s e (restsN a s e.id (D++[c])) e.cuts.length (D++[c]));rw[b];unfold folB;simp only[QU,QY,<-TN];exact zj
  |nil=>exact JQ
theorem fol0_vc(f:List Node)(s:aJ)(e:Event)(h:FolOk f s e)(hk:e.kind≠1/\e.kind≠2/\e.kind≠5/\e.kind≠8):fnVC T Tryz.prog Tryz.f40 [.own 42 (f.map nodeV),invV s,aS e] (.own 42 ((followN f s e).map nodeV)):=by
 obtain⟨c1,c2⟩:=h.no hk.2.2.1;have b:(e.cuts.map dK).length=0:=by rw[c1];rfl
 have c:(e.rests.map bY).length=0:=by rw[c2];rfl
 have a:followN f s e=f:=MQ;rw[a];clear a h c1 c2
 repeat' ((conv=>whnf);first|omega|refine loop_0 ?_|refine zS ?_|refine zm (λx d=>?_)|refine zT ?_ ?_<;>intro _|fail)
 all_goals exact zE
theorem foldN_sorted{xs f:List Node}(h:SortN f)(a:∀x∈xs,∀y∈f,y.id≠x.id)(b:(xs.map Node.id).Pairwise (·≠·)):SortN (xs.foldl addN f)/\(xs.foldl addN f).length=f.length+xs.length/\∀y,y∈xs.foldl addN f↔y∈f\/y∈xs:=by
 have:=bE9 (key:=Node.id) h a b;exact⟨this.1,this.2.2,this.2.1⟩
theorem cutsN_fold{s:aJ}:∀ {l:List Made} {f:List Node},cutsN f s l=(l.map λc=>pieceN (bF0 s c.id) (bF0 s c.id).parent).foldl addN f
 | [],f=>rfl
 |c::l,f=>by unfold cutsN;rw[RY,Rq,RY];exact cutsN_fold
theorem restsN_fold{s:aJ}{n:Int}:∀ {l:List Rest} {f:List Node},restsN f s n l=(l.map λr=>nodeOf (bF5 s r.id) n).foldl addN f
 | [],f=>rfl
 |c::l,f=>by unfold restsN;rw[RY,Rq,RY];exact restsN_fold
theorem fit_folds{f:List Node}{s:aJ}{e:Event}(h:FitN f s e)(M:e.kind=5)(L:iY e){x:Node}(I:f[bs Node.id f e.id]? =some x)(N:f.length+e.cuts.length+e.rests.length<=1000000):
 (∀D R,e.cuts=D++R->SortN (cutsN (f.set (bs Node.id f e.id) (goneN x e.scrap)) s D)/\(cutsN (f.set (bs Node.id f e.id) (goneN x e.scrap)) s D).length<=1000000)/\
 ∀D R,e.rests=D++R->SortN (restsN (cutsN (f.set (bs Node.id f e.id) (goneN x e.scrap)) s e.cuts) s e.id D)/\(restsN (cutsN (f.set (bs Node.id f e.id) (goneN x e.scrap)) s e.cuts) s e.id D).length<=1000000:=by
 have G:newI s e=e.cuts.map (λc=>(bF0 s c.id).id)++e.rests.map λr=>sid (bF5 s r.id):=by unfold newI;rw[Q5 (by omega),Q5 (by omega)]
 have g:(f.set (bs Node.id f e.id) (goneN x e.scrap)).map Node.id=f.map Node.id:=bY6 I rfl;have u:SortN (f.set (bs Node.id f e.id) (goneN x e.scrap)):=by show(_:List Int).Pairwise _;rw[g];exact h.so
 have b:∀y∈f.set (bs Node.id f e.id) (goneN x e.scrap),∀i∈newI s e,y.id≠i:=λy a i hi=>by
  have:y.id∈f.map Node.id:=by rw[<-g];exact RJ a
  obtain⟨z,o,l⟩:=Ru.1 this;rw[<-l];exact h.nw i hi z o
 have j:=h.df;rw[G]at j b;have v:(f.set (bs Node.id f e.id) (goneN x e.scrap)).length=f.length:=Af
 generalize f.set (bs Node.id f e.id) (goneN x e.scrap)=F at*
 have k:∀D R,e.cuts=D++R->SortN (cutsN F s D)/\(cutsN F s D).length=F.length+D.length/\∀y∈cutsN F s D,y∈F\/∃c∈D,y.id=(bF0 s c.id).id:=by
  intro D R d;rw[cutsN_fold];have l:(D.map λc=>pieceN (bF0 s c.id) (bF0 s c.id).parent).map Node.id=D.map λc=>(bF0 s c.id).id:=by rw[Ur];rfl
  obtain⟨q,t,A⟩:=foldN_sorted (xs:=D.map λc=>pieceN (bF0 s c.id) (bF0 s c.id).parent) u (λz o y a=>by
   obtain⟨c,m,rfl⟩:=Ru.1 o
   exact b y a _ (QX.2 (.inl (Ru.2 ⟨c,by rw[d];simp[m],rfl⟩)))) (by
   rw[l];have:=(RQ.1 j).1;rw[d,RF]at this;exact(RQ.1 this).1)
  refine⟨q,by rw[t,Rl],λy a=>?_⟩
  rcases(A y).1 a with a|a
  ·exact .inl a
  ·obtain⟨c,m,rfl⟩:=Ru.1 a
   exact .inr ⟨c,m,rfl⟩
 refine⟨λD R d=>?_,λD R d=>?_⟩
 ·obtain⟨q,t,_⟩:=k D R d
  have:=Ry List.length d;rw[QU]at this;exact⟨q,Aa⟩
 ·obtain⟨B,K,C⟩:=k e.cuts [] (Rn _).symm
  rw[restsN_fold]
  have l:(D.map λr=>nodeOf (bF5 s r.id) e.id).map Node.id=D.map λr=>sid (bF5 s r.id):=by
   rw[Ur];exact Tc λr _=>nodeOf_id _ _
  obtain⟨O,w,J⟩:=RQ.1 j
  obtain⟨q,t,A⟩:=foldN_sorted (xs:=D.map λr=>nodeOf (bF5 s r.id) e.id) B (λz o y a=>by
   obtain⟨r,H,rfl⟩:=Ru.1 o;rw[nodeOf_id];have n:sid (bF5 s r.id)∈e.rests.map λr=>sid (bF5 s r.id):=Ru.2 ⟨r,by rw[d];simp[H],rfl⟩
   rcases C y a with a|⟨c,m,E⟩
   ·exact b y a _ (QX.2 (.inr n))
   ·rw[E]
    exact J _ (Ru.2 ⟨c,m,rfl⟩) _ n) (by
   rw[l];rw[d,RF]at w;exact(RQ.1 w).1)
  have:=Ry List.length d;rw[QU]at this;rw[Rl]at t;exact⟨q,Aa⟩
theorem follow_spec(f:List Node)(s:aJ)(e:Event)(h:FolOk f s e)(c:FitN f s e)(l:f.length+e.cuts.length+e.rests.length<=1000000):Sp 40 [.own 42 (f.map nodeV),invV s,aS e] (.own 42 ((followN f s e).map nodeV)):=by
 refine zsp Tryz.func40 ?_;by_cases j:e.kind=1
 ·exact fol1_vc f s e h j
 by_cases k:e.kind=2
 ·exact fol2_vc f s e h k
 by_cases i:e.kind=8
 ·obtain⟨x,g,m⟩:=aB8 c.so (c.ex (.inl i))
  exact fol8_vc f s e x h i g
 by_cases d:e.kind=5
 ·obtain⟨x,g,m⟩:=aB8 c.so (c.ex (.inr d))
  obtain⟨a,b⟩:=fit_folds c d h.ev g l;exact fol5_vc f _ s e x h d g rfl a b
 exact fol0_vc f s e h ⟨j,k,d,i⟩
theorem find_sized{s:aJ}{n:Nat}(h:Ok s n)(i:Int):eY (bF5 s i):=by
 unfold bF5
 cases a:s.stocks[fst (λx=>sid x=i) s.stocks]? with
 |none=>exact⟨xZ,by simp[wS,bar0]⟩
 |some x=>exact h.sz x (fC a)
theorem fol_ok{f:List Node}{s s':aJ}{e:Event}{n:Nat}(hs:Ok s n)(hs':Ok s' n)(hn:n<=1000000)(he:iY e)(h0:(appR s e).2=0)(hf:FitN f s' e):FolOk f s' e where
 so:=hf.so
 ln:=hf.ln
 ev:=he
 lp:=Ro hs'.lp hn
 ls:=Ro hs'.ls hn
 sz:=find_sized hs'
 sh:=λhk=>aX9 ((aZ6 hs h0).1.2.2.2.1 hk).2
 no:=λhk=>by
  have:=(aZ6 hs h0).1.2.2.1 hk;simp_all
theorem addN_len(f:List Node)(x:Node):(addN f x).length=f.length+1:=mQ
theorem follow_len{f:List Node}{s:aJ}{e:Event}:(followN f s e).length<=f.length+more e:=by
 have c:∀(l:List Made) (f:List Node),(cutsN f s l).length=f.length+l.length:=by
  intro l
  induction l<;>grind [addN_len,Rf,cutsN]
 have r:∀(n:Int) (l:List Rest) (f:List Node),(restsN f s n l).length=f.length+l.length:=by
  intro n l
  induction l<;>grind [addN_len,Rf,restsN]
 grind [Tz,addN_len,goneAt,followN,growN,more]
theorem loop_4{T:Tab}{σ:St}{x:aA2}{Q:Exit->St->Prop}{A B C D:Type}(st:A->B->C->D->St)(inv:A->B->C->D->Prop)(m:A->B->C->D->Nat)(g:A)(i:B)(j:C)(d0:D)(k:Le T σ (st g i j d0))(l:inv g i j d0)(h:∀a b c d,inv a b c d->x (st a b c d) λe f=>match e with
 | .normal=>∃p':A×B×C×D,Le T f (st p'.1 p'.2.1 p'.2.2.1 p'.2.2.2)/\inv p'.1 p'.2.1 p'.2.2.1 p'.2.2.2/\m p'.1 p'.2.1 p'.2.2.1 p'.2.2.2<m a b c d
 |e=>Q e f):bI0 T x σ Q:=
 lD (A:=A×B×C×D) (λp=>st p.1 p.2.1 p.2.2.1 p.2.2.2) (λp=>inv p.1 p.2.1 p.2.2.1 p.2.2.2) (λp=>m p.1 p.2.1 p.2.2.1 p.2.2.2) (g,i,j,d0) k l (λp n=>h p.1 p.2.1 p.2.2.1 p.2.2.2 n)
def bldSt(l:List Event)(s:aJ)(F:List Node)(D:List Event):St:=mkSt [(0, .sl (l.map aS)),(2, .arr 32 D.length),(3,I 0),(4,I 0),(5, .box 5 0),(10, .sl (l.map aS)),(11,I l.length),(12,I D.length)] [(5,invC s)] [(32,⟨D.length, .own,42,F.map nodeV⟩)]
theorem build_spec(l:List Event)(y:∀e∈l,iY e)(M:moreL l<=1000000)(N:l.length<=1000000)(z:fitAll inv0 [] l):Sp 12 [.sl (l.map aS)] (.tup [.own 42 ((buildF inv0 [] 0 l).1.map nodeV),I (buildF inv0 [] 0 l).2.1,I (buildF inv0 [] 0 l).2.2]):=by
 refine zsp Tryz.func12 ?_;have hm:(l.map aS).length=l.length:=Af;generalize H:buildF inv0 [] 0 l=q
 repeat' ((conv=>whnf);first|omega|refine zS ?_|refine zm (λx hx=>?_)|refine zT ?_ ?_<;>intro _|fail)
 refine loop_4 (A:=aJ) (B:=List Node) (C:=List Event) (D:=List Event) (λs F D R=>bldSt l s F D) (λs F D R=>l=D++R/\buildF s F D.length R=q/\fitAll s F R/\∃n,Ok s n/\F.length<=n/\n+moreL R<=1000000) (λs F D R=>R.length) inv0 [] [] l ?_ ⟨rfl,H,z,0,ok0,QV _,Aa⟩ (λs F D R hp=>?_)
 ·show Le T _ (mkSt [(0, .sl (l.map aS)),(2, .arr 32 0),(3,I 0),(4,I 0),(5, .box 5 0),(10, .sl (l.map aS)),(11,I l.length),(12,I 0)] [(5,invC inv0)] [(32,⟨0, .own,42,[]⟩)])
  rw[<-hm];exact zj
 obtain⟨hp,hq,d,n,r,w,G⟩:=hp
 cases R with
 |nil=>exact Jj
 |cons e R=>
  have hlen:=aO hp;have J:moreL (e::R)=more e+moreL R:=Hl
  have b:=y e Ae;have g:=kG r (e:=e) Aa b
  obtain⟨u,v⟩:=g;have j:((D++[e]).length:Int)=(D.length:Int)+1:=Af;have k:buildF s F D.length (e::R)=if(appR s e).2=0 then buildF (appR s e).1 (followN F (appR s e).1 e) ((D.length:Int)+1) R else(F,(D.length:Int),(appR s e).2):=rfl
  have i:fitAll s F (e::R)=((appR s e).2=0->FitN F (appR s e).1 e/\fitAll (appR s e).1 (followN F (appR s e).1 e) R):=rfl;rw[k]at hq;rw[i]at d;by_cases c:(appR s e).2=0
  ·rw[QO c]at hq
   have o:=v c;obtain⟨m,t⟩:=d c;have E:more e=1+e.cuts.length+e.rests.length:=rfl
   have K:=follow_spec F (appR s e).1 e (fol_ok (r.mono Aa) (o.mono (QV _)) Aa b c m) m Aa;have L:= @follow_len F (appR s e).1 e
   rw[c]at u;generalize followN F (appR s e).1 e=f at*;generalize appR s e=a at*
   repeat' ((conv=>whnf);first|omega|refine zS ?_|refine zm (λx hx=>?_)|refine zT ?_ ?_<;>intro _|fail)
   all_goals conv=>whnf
   refine⟨(a.1,f,D++[e],R),?_,⟨Ae,by rw[j];exact hq,t,n+more e,o,by show f.length<=_;omega,by show n+more e+moreL R<=1000000;omega⟩,Af⟩
   show Le T _ (bldSt l a.1 f (D++[e]));unfold bldSt;exact Nj
  ·rw[Q5 c]at hq
   subst hq;generalize appR s e=a at*;exact Nr
theorem rightN_spec(x:Node):Sp 48 [nodeV x] (DB (ownP x)):=by
 refine zsp Tryz.func48 ?_;have d:=aG6 x.part;have a:ownP x↔1<=x.id/\1<=x.kind/\x.kind<=3/\1<=x.size/\0<=x.scrap/\x.scrap<=x.size/\(x.gone=false->x.scrap=0)/\(x.kind=3->iM x.part/\x.parent≠0/\x.gone=false)/\(x.kind≠3->x.part=aI):=RN
 generalize ownP x=P at*;generalize iM x.part=q at*;obtain⟨i,k,p,g,h,t,z,o,c⟩:=x;simp only at a;cases o;all_goals simp only[reduceCtorEq,false_implies,true_implies,and_false,U4,implies_true,true_and]at a
 all_goals repeat' ((conv=>whnf);first|(exfalso;contradiction)|omega|refine zS ?_|refine zm (λx e=>?_)|refine zT ?_ ?_<;>intro _|fail)
 all_goals conv=>whnf
 all_goals first
  |(refine aA (aC λb=>?_);replace a:=a.1 b;simp only at*;omega)
  |(refine aA (aC λb=>?_);replace a:=a.1 b;simp only at*;exact absurd (a.2.2.2.2.2.2.2.1 Aa).1 Ag)
  |(refine aA (aC λb=>?_);replace a:=a.1 b;simp only at*;exact absurd Ag (a.2.2.2.2.2.2.2.1 Aa).2)
  |(refine aA (aC λb=>?_);replace a:=a.1 b;simp only at*;exact absurd Ag a.2.2.2.2.2.2.1)
  |(refine aA (fE (a.2 ?_));simp only at*;exact⟨Aa,Aa,Aa,Aa,Aa,Aa,Aa,λ_=>⟨Ag,Aa⟩,λq=>absurd Ag q⟩)
  |(refine aA (qV ?_);simp only at*;exact⟨λq=>a.2 ⟨Aa,Aa,Aa,Aa,Aa,Aa,Aa,λq=>absurd q Ag,λ_=>q⟩,λq=>(a.1 q).2.2.2.2.2.2.2.2 Ag⟩)
  |(refine aA (qV ?_);simp only at*;exact⟨λq=>a.2 ⟨Aa,Aa,Aa,Aa,Aa,Aa,λq=>absurd q Ag,λ_=>q⟩,λq=>(a.1 q).2.2.2.2.2.2.2 Ag⟩)
abbrev rtB(f:List Node):List (List V):=[[.sl (f.map nodeV)],[.fn 104 [.box 100000 0, .box 100001 0]]]
theorem climb_none{f:List Node}{k:Nat}{x:Node}(a:x.parent≠0)(b:¬∃m∈f,m.id=x.parent):climbR f k x=false:=by
 cases k with
 |zero=>unfold climbR;exact decide_eq_false a
 |succ k=>
  unfold climbR;rw[Q5 a]
  cases h:getN f x.parent with
  |none=>rfl
  |some y=>exact absurd ⟨y,getN_mem h⟩ b
theorem climb_some{f:List Node}{k:Nat}{x y:Node}(a:x.parent≠0)(b:getN f x.parent=some y):climbR f (k+1) x=climbR f k y:=by
 rw[climbR,Q5 a,b]
theorem climb1_spec(f:List Node)(g:f.length<=1000000)(d:SortN f):∀(k:Nat) (x:Node),k<=1000000->SpB 104 [nodeV x,I k, .box 100000 0, .box 100001 0] (rtB f) (V.lit (.bool (climbR f k x))) (rtB f):=by
 intro k
 induction k with
 |zero=>
  intro x r;refine b_of Tryz.func104 Ac Ac rfl rfl ?_;have l:=findN_spec f x.parent g d;have c:climbR f 0 x=decide (x.parent=0):=rfl
  generalize bs Node.id f x.parent=j at*;generalize (∃m∈f,m.id=x.parent)=P at*;by_cases a:x.parent=0
  ·rw[c,decide_eq_true a]
   exact O1
  ·rw[c,decide_eq_false a]
   exact Ot
 |succ k t=>
  intro x r;refine b_of Tryz.func104 Ac Ac rfl rfl ?_;have l:=findN_spec f x.parent g d;by_cases a:x.parent=0
  ·have c:climbR f (k+1) x=true:=by unfold climbR;rw[QO a]
   rw[c];exact O1
  by_cases e:∃m∈f,m.id=x.parent
  ·obtain⟨y,i⟩:=getN_ex.1 e
   have o:=getN_bs d i;have q:=(QR.1 o).1
   rw[climb_some a i];have s:(f.map nodeV).length=f.length:=Af
   have n:SpB 104 [nodeV y,I (((k+1:Nat):Int)-1), .box 100000 0, .box 100001 0] (rtB f) (V.lit (.bool (climbR f k y))) (rtB f):=by
    have:=t y Aa;rwa [show((k+1:Nat):Int)-1=(k:Int) from Aa]
   generalize climbR f k y=b at*;generalize bs Node.id f x.parent=j at*;generalize (∃m∈f,m.id=x.parent)=P at*
   repeat' ((conv=>whnf);first|omega|(exfalso;contradiction)|refine bW8 [] [(32,[88888])] trivial Aj ?_|refine zh (n) [100000,100001] ?_|refine zS ?_|refine zm (λx hx=>?_)|refine zT ?_ ?_<;>intro _|fail)
   all_goals conv=>whnf
   all_goals first|exact⟨_,rfl,zc1⟩|exact zc1
  ·rw[climb_none a e]
   generalize bs Node.id f x.parent=j at*;generalize (∃m∈f,m.id=x.parent)=P at*;exact Ot
theorem rooted_spec(f:List Node)(x:Node)(d:f.length<=1000000)(e:SortN f):Sp 49 [.sl (f.map nodeV),nodeV x] (V.lit (.bool (climbR f f.length x))):=by
 refine zsp Tryz.func49 ?_;have c:=climb1_spec f d e f.length x d;have a:(f.map nodeV).length=f.length:=Af
 generalize climbR f f.length x=b at*;rw[<-a]at c
 repeat' ((conv=>whnf);first|refine zh (c) [2,5] ?_|refine zS ?_|refine zm (λx g=>?_)|refine zT ?_ ?_<;>intro _|fail)
 all_goals exact zE
def putsV(ps:List (Int×Int)):List V:=ps.map λp=>V.tup [.lit (.int .i64 p.1),I p.2]
def look:List (Int×Int)->Int->Int
 | [],_=>0
 |p::ps,n=>if p.1=n then p.2 else look ps n
theorem assoc_look(n:Int):∀a:List (Int×Int),(jG (.int .i64 n) (putsV a)).getD (.lit (.int .i64 0))= .lit (.int .i64 (look a n))
 | [] =>rfl
 |p::a=>by
  have b:=assoc_look n a;unfold look;show(jG (.int .i64 n) (.tup [.lit (.int .i64 p.1),I p.2] ::putsV a)).getD _=_;by_cases h:p.1=n
  ·rw[QO h,h,assoc_hit]
   rfl
  ·simp_all [Q5,assoc_miss]
def goneLeft(ps:List (Int×Int))(x:Node):Prop:=x.gone=true/\look ps x.id≠0
theorem rightF_spec(a:List (Int×Int))(x:Node):Sp 51 [nodeV x, .fp [V.mapV (.int .i64 0) (putsV a)]] (DB (goneLeft a x)):=by
 refine zsp Tryz.func51 ?_;have d:=assoc_look x.id a;have b:goneLeft a x↔x.gone=true/\look a x.id≠0:=RN
 generalize goneLeft a x=P at*;generalize look a x.id=v at*;generalize e:putsV a=es at*;obtain⟨i,k,p,g,h,t,z,o,c⟩:=x;cases o
 ·repeat' ((conv=>whnf);first|(exfalso;contradiction)|refine zS ?_|refine zm (λx f=>?_)|refine zT ?_ ?_<;>intro _|fail)
  all_goals conv=>whnf
  all_goals exact aA (aC λq=>absurd (b.1 q).1 (λq=>Hy))
 ·repeat' ((conv=>whnf);first|(exfalso;contradiction)|refine eV6 d ?_|refine zS ?_|refine zm (λx f=>?_)|refine zT ?_ ?_<;>intro _|fail)
  all_goals conv=>whnf
  all_goals exact aA (aF6 (dY0.trans ⟨λq=>b.2 ⟨rfl,q⟩,λq=>(b.1 q).2⟩))
theorem ndI_vc{g:FuncId}{c:List V}{Q:Node->Prop}(k:∀m,Sp g (nodeV m:: [.fp c]) (DB (Q m)))(l:List Node)(q:l.length<=1000000):fnVC T Tryz.prog Tryz.f105 [.sl (l.map nodeV), .fn g [.fp c]] (I (fstI Q l)):=by
 have n:(l.map nodeV).length=l.length:=Af
 repeat' ((conv=>whnf);first|refine zS ?_|refine zd (λhd=>?_) (λhd=>?_)|refine zl (λf=>?_) (λf=>?_)|refine zk (λd=>?_) (λd=>?_)|refine ze (λb=>?_) (λb=>?_)|refine zm (λx j=>?_)|refine zb (λa=>?_) (λa=>?_))
 refine aU (A:=List Node) (B:=List Node) (λD R=>mkSt [(0, .sl (l.map nodeV)),(1, .fn g [.fp c]),(7,I l.length),(8,I D.length)] [] [])
  (λD R=>l=D++R/\∀m∈D,¬Q m) (λD R=>R.length) [] l ?_ ⟨rfl,Af⟩ (λD R o=>?_)
 ·exact zj
 ·obtain⟨h1,h2⟩:=o
  have i:l.length=D.length+R.length:=Bh;have hD:∀y∈D,(!decB (Q y))=true:=λy hy=>Cc
  cases R with
  |nil=>
   have e:l=D:=Bh;simp at i
   repeat' ((conv=>whnf);first|omega|refine zS ?_|refine zd (λhd=>?_) (λhd=>?_)|refine zl (λf=>?_) (λf=>?_)|refine zk (λd=>?_) (λd=>?_)|refine ze (λb=>?_) (λb=>?_)|refine zm (λx j=>?_)|refine zb (λa=>?_) (λa=>?_))
   exact QE
  |cons x R=>
   rw[Rf]at i
   repeat' ((conv=>whnf);first|omega|refine zc (k x) ?_|refine zS ?_|refine zd (λhd=>?_) (λhd=>?_)|refine zl (λf=>?_) (λf=>?_)|refine zk (λd=>?_) (λd=>?_)|refine ze (λb=>?_) (λb=>?_)|refine zm (λx j=>?_)|refine zb (λa=>?_) (λa=>?_))
   ·exact IY
   ·exact IB
theorem ndI_spec{g:FuncId}{c:List V}{Q:Node->Prop}(a:∀m,Sp g (nodeV m:: [.fp c]) (DB (Q m)))(l:List Node)(b:l.length<=1000000):Sp 105 [.sl (l.map nodeV), .fn g [.fp c]] (I (fstI Q l)):=zsp Tryz.func105 (ndI_vc a l b)
theorem ndC_vc{g:FuncId}{c:List V}{Q:Node->Prop}(f:∀m,Sp g (nodeV m:: [.fp c]) (DB (Q m)))(l:List Node)(i:l.length<=1000000):fnVC T Tryz.prog Tryz.f50 [.sl (l.map nodeV), .fn g [.fp c]] (DB (∃m∈l,Q m)):=by
 repeat' ((conv=>whnf);first|refine zc (ndI_spec f l i) ?_|refine zS ?_|refine zd (λe=>?_) (λe=>?_)|refine zl (λhlt=>?_) (λhlt=>?_)|refine zk (λd=>?_) (λd=>?_)|refine ze (λb=>?_) (λb=>?_)|refine zm (λx j=>?_)|refine zb (λa=>?_) (λa=>?_))
 exact Nq
theorem ndC_spec{g:FuncId}{c:List V}{Q:Node->Prop}(a:∀m,Sp g (nodeV m:: [.fp c]) (DB (Q m)))(l:List Node)(b:l.length<=1000000):Sp 50 [.sl (l.map nodeV), .fn g [.fp c]] (DB (∃m∈l,Q m)):=zsp Tryz.func50 (ndC_vc a l b)
def baseN(f:List Node)(n:Int):Int:=match getN f n with
 |some x=>x.size-x.scrap
 |none=>0
theorem base_some{f:List Node}{n:Int}{x:Node}(h:getN f n=some x):baseN f n=x.size-x.scrap:=by unfold baseN;rw[h]
theorem base_none{f:List Node}{n:Int}(h:∀x∈f,x.id≠n):baseN f n=0:=by unfold baseN;rw[getN_none.2 h]
theorem getN_snoc{D:List Node}{x:Node}{n:Int}:getN (D++[x]) n=(getN D n).or (if x.id=n then some x else none):=by
 unfold getN;simp_all
theorem base_snoc{D:List Node}{x:Node}(h:∀y∈D,y.id≠x.id)(n:Int):baseN (D++[x]) n=if x.id=n then x.size-x.scrap else baseN D n:=by
 unfold baseN;rw[getN_snoc];by_cases c:x.id=n
 ·rw[QO c,QO c,getN_none.2 (λy a e=>h y a Aa)]
  rfl
 ·rw[Q5 c,Q5 c]
  cases getN D n<;>rfl
theorem ksum_snoc(D:List Node)(x:Node)(n:Int):ksum (D++[x]) n=ksum D n+if x.parent=n then x.size else 0:=by unfold ksum;simp
theorem ksum_app(D R:List Node)(n:Int):ksum (D++R) n=ksum D n+ksum R n:=by unfold ksum;rw[RF,List.sum_append]
theorem ksum_pos{R:List Node}(h:∀x∈R,1<=x.size)(n:Int):0<=ksum R n:=by
 unfold ksum
 induction R<;>grind
theorem sort_snoc{D:List Node}{x y:Node}{E:List Node}(a:SortN D)(b:D=E++[y])(h:y.id<x.id):SortN (D++[x]):=by
 show((D++[x]).map Node.id).Pairwise _;rw[RF,RQ];grind
end Go.Proofs.Led
