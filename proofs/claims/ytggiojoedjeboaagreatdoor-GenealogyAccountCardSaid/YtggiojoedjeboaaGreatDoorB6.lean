/- Lemmas. -/
import Derived.Test.YtggiojoedjeboaaGreatDoorB5
set_option linter.all false
set_option autoImplicit true
set_option relaxedAutoImplicit true
set_option maxRecDepth 1000000
set_option maxHeartbeats 8000000
noncomputable section
namespace Go.Proofs.Led
open Go Go.Proofs Go.Ab Tryz
def bZ0:∀ {l} {x},x∈l->Q x->(∀y∈l,Q y->y=x)->l[fst Q l]? =some x
 | [],x,h,_,_=>Ah
 |y::l,x,h,a,c=>by
  by_cases d:Q y
  ·simp_all [Ug,Q9,dH,fst]
  ·have e:fst Q (y::l)=fst Q l+1:=by
    simp_all [Ug,QJ,dW,fst]
   rw[e,Sj];rcases QY.1 h with h|h
   ·rw[h]at a;exact absurd a d
   ·exact bZ0 h a (λz hz=>c z I7)
def bB9{c:Type}{key:c->Int}:∀ {l:List c},(l.map key).Pairwise (·<·)->∀ {x y},x∈l->y∈l->key x=key y->x=y
 | [],_,x,y,h,_,_=>Ah
 |z::l,d,x,y,f,g,e=>by
  rw[QW,Si]at d;rcases QY.1 f with a|a<;>rcases QY.1 g with b|b
  ·rw[a,b]
  ·grind [Rn]
  ·grind [Rn]
  ·exact bB9 d.2 a b e
def eF7(h:Ok s n)(a:x∈s.stocks):s.stocks[fst (λy=>sid y=sid x) s.stocks]? =some x:=
 bZ0 a rfl (λy b e=>bB9 h.ss b a e)
def dK2(h:Ok s n)(a:x∈s.pieces):s.pieces[fst (λy=>y.id=x.id) s.pieces]? =some x:=
 bZ0 a rfl (λy b e=>bB9 h.sp b a e)
def cC8 n x:Sp 80 [aZ x, .fp [I n]] (DB (x.id=n)):=by
 refine zsp func80 ?_;exact Pm
def bZ9 n x:Sp 82 [aQ x, .fp [I n]] (DB (sid x=n)):=by
 refine zsp func82 ?_;have a:=aE2 x;exact Pm
def fB2(hg:∀m,Sp g (aZ m:: [.fp c]) (DB (Q m))) l(b:l.length<=1000000):fnVC T Tryz.prog Tryz.f79 [.sl (l.map aZ), .fn g [.fp c]] (I (fstI Q l)):=by
 have a:(l.map aZ).length=l.length:=Ad
 repeat' ((conv=>whnf);first|refine zS ?_|fail)
 refine aU (A:=List Piece) (B:=List Piece) (λD R=>mkSt [(0, .sl (l.map aZ)),(1, .fn g [.fp c]),(7,I l.length),(8,I D.length)] [] [])
  (λD R=>l=D++R/\∀m∈D,¬Q m) (λD R=>R.length) [] l ?_ ⟨rfl,Ad⟩ (λD R hp=>?_)
 ·exact zj
 ·exact IE
def dY3(a:∀m,Sp g (aZ m:: [.fp c]) (DB (Q m))) l(b:l.length<=1000000):Sp 79 [.sl (l.map aZ), .fn g [.fp c]] (I (fstI Q l)):=zsp func79 (fB2 a l b)
def fA9(hg:∀m,Sp g (aQ m:: [.fp c]) (DB (Q m))) l(b:l.length<=1000000):fnVC T Tryz.prog Tryz.f81 [.sl (l.map aQ), .fn g [.fp c]] (I (fstI Q l)):=by
 have a:(l.map aQ).length=l.length:=Ad
 repeat' ((conv=>whnf);first|refine zS ?_|fail)
 refine aU (A:=List aN) (B:=List aN) (λD R=>mkSt [(0, .sl (l.map aQ)),(1, .fn g [.fp c]),(7,I l.length),(8,I D.length)] [] [])
  (λD R=>l=D++R/\∀m∈D,¬Q m) (λD R=>R.length) [] l ?_ ⟨rfl,Ad⟩ (λD R hp=>?_)
 ·exact zj
 ·exact IE
def eH2(a:∀m,Sp g (aQ m:: [.fp c]) (DB (Q m))) l(b:l.length<=1000000):Sp 81 [.sl (l.map aQ), .fn g [.fp c]] (I (fstI Q l)):=zsp func81 (fA9 a l b)
def piece0:Piece:=⟨0,0,aI,aI,aI,0,false,0,aI⟩
def bF5(s:aJ)(n:Int):aN:=(s.stocks[fst (λx=>sid x=n) s.stocks]?).getD wS
def bF0(s:aJ)(n:Int):Piece:=(s.pieces[fst (λx=>x.id=n) s.pieces]?).getD piece0
def eD1:fst Q l<l.length↔∃m∈l,Q m:=by
 by_cases h:fst Q l<l.length
 ·refine⟨λ_=>?_,λ_=>h⟩
  apply Ut;intro d;exact iO.2 (λm a b=>d ⟨m,a,b⟩) h
 ·refine⟨λq=>absurd q h,λ⟨m,a,b⟩=>absurd b (iO.1 h m a)⟩
def bH9 s n(a:s.stocks.length<=1000000):Sp 43 [invV s,I n] (.tup [aQ (bF5 s n),DB (∃m∈s.stocks,sid m=n)]):=by
 refine zsp func43 ?_;have h1:=eH2 (c:=[I n]) (λx=>bZ9 n x) s.stocks a;have hs:bF5 s n=(s.stocks[fst (λx=>sid x=n) s.stocks]?).getD wS:=rfl
 have hlt:=eD1 (Q:=λx=>sid x=n) (l:=s.stocks);have hi:fstI (λx:aN=>sid x=n) s.stocks=if fst (λx=>sid x=n) s.stocks<s.stocks.length then(fst (λx=>sid x=n) s.stocks:Int)else-1:=rfl
 generalize fstI (λx=>sid x=n) s.stocks=z at*;generalize fst (λx=>sid x=n) s.stocks=k at*;generalize (∃m∈s.stocks,sid m=n)=P at*;have d:(s.stocks.map aQ).length=s.stocks.length:=Ad
 conv=>whnf
 refine dJ4 Unit (λ_=>mkSt [(2, .box 2 0),(3, .fp [I n]),(4, .box 4 0),(5,B false)] [(2,invC s),(4,dA5)] []) (λ_=>True) ?_ ?_
 ·exact Jk
 intro _ _;by_cases c:k<s.stocks.length
 ·rw[QJ c]at hi
  have hP:=hlt.1 c;have hg:s.stocks[k]? =some (bF5 s n):=GL
  exact NJ
 ·rw[Q9 c]at hi
  have hP:=λh=>c (hlt.2 h);have hg:bF5 s n=wS:=FM
  exact NI
def bG3 s n(a:s.pieces.length<=1000000):Sp 42 [invV s,I n] (.tup [aZ (bF0 s n),DB (∃m∈s.pieces,m.id=n)]):=by
 refine zsp func42 ?_;have h1:=dY3 (c:=[I n]) (λx=>cC8 n x) s.pieces a;have hs:bF0 s n=(s.pieces[fst (λx=>x.id=n) s.pieces]?).getD piece0:=rfl
 have hlt:=eD1 (Q:=λx=>x.id=n) (l:=s.pieces);have hi:fstI (λx:Piece=>x.id=n) s.pieces=if fst (λx=>x.id=n) s.pieces<s.pieces.length then(fst (λx=>x.id=n) s.pieces:Int)else-1:=rfl
 generalize fstI (λx=>x.id=n) s.pieces=z at*;generalize fst (λx=>x.id=n) s.pieces=k at*;generalize (∃m∈s.pieces,m.id=n)=P at*;have d:(s.pieces.map aZ).length=s.pieces.length:=Ad
 conv=>whnf
 refine dJ4 Unit (λ_=>mkSt [(2, .box 2 0),(3, .fp [I n]),(4, .box 4 0),(5,B false)] [(2,invC s),(4,dZ8 piece0)] []) (λ_=>True) ?_ ?_
 ·exact Jk
 intro _ _;by_cases c:k<s.pieces.length
 ·rw[QJ c]at hi
  have hP:=hlt.1 c;have hg:s.pieces[k]? =some (bF0 s n):=GL
  exact NJ
 ·rw[Q9 c]at hi
  have hP:=λh=>c (hlt.2 h);have hg:bF0 s n=piece0:=FM
  exact NI
structure Node where
 id:Int
 kind:Int
 parent:Int
 grade:ByteArray
 heat:ByteArray
 part:ByteArray
 size:Int
 gone:Bool
 scrap:Int
def nodeC(x:Node):List V:=[I x.id,I x.kind,I x.parent,S x.grade,S x.heat,S x.part,I x.size,B x.gone,I x.scrap]
def nodeV(x:Node):V:= .agg (nodeC x)
def nodeOf(x:aN)(p:Int):Node:=if x.isBar then⟨x.bar.id,2,p,x.bar.grade,x.bar.heat,aI,gG x,false,0⟩else⟨x.sheet.id,1,p,x.sheet.grade,x.sheet.heat,aI,gG x,false,0⟩
def pieceN(p:Piece)(q:Int):Node:=⟨p.id,3,q,p.grade,p.heat,p.part,p.size,false,0⟩
def addN(f:List Node)(n:Node):List Node:=putAt f (bs Node.id f n.id) n
def goneN(x:Node)(sc:Int):Node:={x with gone:=true,scrap:=sc}
def cutsN(f:List Node)(s:aJ)(l:List Made):List Node:=l.foldl (λf c=>addN f (pieceN (bF0 s c.id) (bF0 s c.id).parent)) f
def restsN(f:List Node)(s:aJ)(n:Int)(l:List Rest):List Node:=l.foldl (λf r=>addN f (nodeOf (bF5 s r.id) n)) f
def growN(f:List Node)(s:aJ)(e:Event):List Node:=restsN (cutsN f s e.cuts) s e.id e.rests
def goneAt(f:List Node)(i:Nat)(e:Event):List Node:=match f[i]? with
 |some x=>f.set i (goneN x (if e.kind=8 then x.size else e.scrap))
 |none=>f
def followN(f:List Node)(s:aJ)(e:Event):List Node:=
 if e.kind=1 then addN f (nodeOf ⟨false,e.sheet,bar0,aI⟩ 0)
 else if e.kind=2 then addN f (nodeOf ⟨true,dN,e.bar,aI⟩ 0)
 else if e.kind=8\/e.kind=5 then growN (goneAt f (bs Node.id f e.id) e) s e else growN f s e
theorem nodeOf_id x p:(nodeOf x p).id=sid x:=by
 unfold nodeOf sid;split<;>rfl
def nodeOf_gone x p:(nodeOf x p).gone=false/\(nodeOf x p).scrap=0/\(nodeOf x p).parent=p/\(nodeOf x p).part=aI/\(nodeOf x p).size=gG x:=by
 grind [nodeOf]
def nodeOf_kind x p:(nodeOf x p).kind=if x.isBar then 2 else 1:=by
 unfold nodeOf;split<;>rfl
def nodeOf_grade x p:(nodeOf x p).grade=(if x.isBar then x.bar.grade else x.sheet.grade)/\(nodeOf x p).heat=if x.isBar then x.bar.heat else x.sheet.heat:=by
 unfold nodeOf;split<;>exact⟨rfl,rfl⟩
def newI(s:aJ)(e:Event):List Int:=if e.kind=1 then [e.sheet.id]else if e.kind=2 then [e.bar.id]else e.cuts.map (λc=>(bF0 s c.id).id)++e.rests.map λr=>sid (bF5 s r.id)
structure FitN(f:List Node)(s:aJ)(e:Event):Prop where
 so:(f.map Node.id).Pairwise (·<·)
 ln:f.length<=1000000
 ex:(e.kind=8\/e.kind=5)->∃x∈f,x.id=e.id
 nw:∀i∈newI s e,∀x∈f,x.id≠i
 df:(newI s e).Pairwise (·≠·)
def fitAll(s:aJ)(f:List Node):List Event->Prop
 | [] =>True
 |e::l=>(appR s e).2=0->FitN f (appR s e).1 e/\fitAll (appR s e).1 (followN f (appR s e).1 e) l
def buildF(s:aJ)(f:List Node)(i:Int):List Event->List Node×Int×Int
 | [] =>(f,i,0)
 |e::l=>if(appR s e).2=0 then buildF (appR s e).1 (followN f (appR s e).1 e) (i+1) l else(f,i,(appR s e).2)
abbrev SortN(f:List Node):Prop:=(f.map Node.id).Pairwise (·<·)
def getN(f:List Node)(n:Int):Option Node:=f.find? λx=>decide (x.id=n)
def getN_mem(h:getN f n=some x):x∈f/\x.id=n:=⟨List.mem_of_find?_eq_some h,by have:=List.find?_some h;simpa using this⟩
def getN_some(d:SortN f)(a:x∈f):getN f x.id=some x:=by
 cases h:getN f x.id with
 |none=>exact absurd (List.find?_eq_none.1 h x a) Ad
 |some y=>
  let⟨b,c⟩:=getN_mem h;rw[bB9 d b a c]
def getN_none:getN f n=none↔∀x∈f,x.id≠n:=by
 unfold getN;rw[List.find?_eq_none];simp
def getN_bs(c:SortN f)(h:getN f n=some x):f[bs Node.id f n]? =some x:=by
 let⟨a,b⟩:=getN_mem h;let⟨y,d,e⟩:=aB8 c ⟨x,a,b⟩;rw[d,bB9 c (fC d) a (by rw[e,b])]
def getN_ex:(∃x∈f,x.id=n)↔∃x,getN f n=some x:=by
 constructor
 ·rintro⟨x,a,e⟩
  cases h:getN f n with
  |none=>exact absurd e (getN_none.1 h x a)
  |some y=>exact⟨y,rfl⟩
 ·rintro⟨x,a⟩
  exact⟨x,getN_mem a⟩
def climbR(f:List Node):Nat->Node->Bool
 |0,x=>decide (x.parent=0)
 |k+1,x=>if x.parent=0 then true else match getN f x.parent with
  |some y=>climbR f k y
  |none=>false
def chainR(f:List Node):Nat->Node->List Node
 |0,x=> [x]
 |k+1,x=>if x.parent=0 then [x]else match getN f x.parent with
  |some y=>x::chainR f k y
  |none=> [x]
def ownP(x:Node):Prop:=1<=x.id/\1<=x.kind/\x.kind<=3/\1<=x.size/\0<=x.scrap/\x.scrap<=x.size/\(x.gone=false->x.scrap=0)/\
 (x.kind=3->iM x.part/\x.parent≠0/\x.gone=false)/\(x.kind≠3->x.part=aI)
def linkN(x p:Node):Prop:=p.gone=true/\p.grade=x.grade/\p.heat=x.heat/\(x.kind=3\/x.kind=p.kind)
def ksum(f:List Node)(n:Int):Int:=(f.map λx=>if x.parent=n then x.size else 0).sum
def parN(f:List Node)(x:Node):Prop:=x.parent≠0->∃p,getN f x.parent=some p/\linkN x p
structure RightF(f:List Node):Prop where
 own:∀x∈f,ownP x
 so:SortN f
 par:∀x∈f,parN f x
 up:∀x∈f,climbR f f.length x=true
 sum:∀g∈f,g.gone=true->ksum f g.id=g.size-g.scrap
theorem chain_mono:∀ {k} {x},climbR f k x=true->chainR f (k+1) x=chainR f k x
 |0,x,h=>by
  simp_all [QJ,QL,climbR,chainR]
 |k+1,x,h=>by
  unfold climbR at h;rw[chainR,chainR];by_cases c:x.parent=0
  ·rw[QJ c,QJ c]
  ·rw[Q9 c]at h
   rw[Q9 c,Q9 c];cases a:getN f x.parent<;>simp_all [chain_mono]
theorem chain_len:∀ {k} {x},1<=(chainR f k x).length/\(chainR f k x).length<=k+1
 |0,x=>⟨QR _,QR _⟩
 |k+1,x=>by
  unfold chainR;split
  ·exact⟨QR _,Ad⟩
  ·split
   ·simp_all [chain_len,QX]
   ·exact⟨QR _,Ad⟩
def chN(f:List Node)(x:Node):List Node:=chainR f f.length x
def ch_root(a:x.parent=0):chN f x=[x] :=by
 unfold chN;cases f.length<;>simp_all [QJ,chainR]
def ch_step(h:∀x∈f,climbR f f.length x=true)(a:x∈f)(b:x.parent≠0)(g:getN f x.parent=some y):chN f x=x::chN f y:=by
 have c:=h x a;have e:=List.length_pos_of_mem a
 obtain⟨k,d⟩:∃k,f.length=k+1:=⟨f.length-1,Aa⟩;simp_all [Q9,chain_mono,chN,climbR,chainR]
def ch_self:∃l,chN f x=x::l:=Kq
def ch_le:(chN f x).length<=f.length+1:=chain_len.2
section
variable{f:List Node}(h:RightF f)
include h
def par_get(c:x∈f)(b:x.parent≠0):∃y,getN f x.parent=some y/\y∈f/\y.id=x.parent/\linkN x y/\chN f x=x::chN f y:=by
 let⟨y,a,g⟩:=h.par x c b;let⟨d,e⟩:=getN_mem a;exact⟨y,a,d,e,g,ch_step h.up c b a⟩
def ch_in:∀(n:Nat) {x y:Node},x∈f->(chN f x).length<=n->y∈chN f x->y∈f/\(chN f y).length<=(chN f x).length
 |0,x,y,b,c,a=>by
  simp_all
 |n+1,x,y,b,c,a=>by
  by_cases d:x.parent=0
  ·rw[ch_root d]at a
   rw[QT.1 a];exact⟨b,QR _⟩
  ·obtain⟨p,j,g,k,l,e⟩:=par_get h b d
   rw[e]at a c⊢;rcases QY.1 a with rfl|a
   ·exact⟨b,by rw[e];exact QR _⟩
   ·simp only[QX]at c⊢
    obtain⟨i,m⟩:=ch_in n g Aa a;exact⟨i,Aa⟩
theorem ch_child(b:x∈f)(a:p∈f)(e:x.parent=p.id):chN f x=x::chN f p:=by
 have g:=(h.own p a).1;let⟨y,i,c,j,k,d⟩:=par_get h b Aa;rw[d,bB9 h.so c a Aa]
end
def underN(f:List Node)(x:Node)(n:Int):Prop:=∃y∈chN f x,y.id=n
open Classical in
def ind(p:Prop):Int:=if p then 1 else 0
theorem ind_t(h:p):ind p=1:=QJ h
theorem ind_f(h:¬p):ind p=0:=Q9 h
def kidsN(f:List Node)(n:Int):List Node:=f.filter λx=>decide (x.parent=n)
def mem_kids:x∈kidsN f n↔x∈f/\x.parent=n:=by unfold kidsN;simp
theorem sum_zero{a:Type}{g:a->Int}:∀ {l:List a},(∀x∈l,g x=0)->(l.map g).sum=0
 | [],_=>rfl
 |x::l,h=>by rw[QW,RJ,h x (by simp),sum_zero (λy b=>h y (by simp[b]))];rfl
theorem sum_add{a:Type}{g k:a->Int}:∀ {l:List a},(l.map λx=>g x+k x).sum=(l.map g).sum+(l.map k).sum
 | [] =>rfl
 |x::l=>by rw[QW,RJ,sum_add (l:=l),QW,RJ,QW,RJ];omega
def sum_congr{a:Type}{g k:a->Int}{l:List a}(h:∀x∈l,g x=k x):(l.map g).sum=(l.map k).sum:=by rw[SL h]
def sum_swap{a β:Type}(g:a->β->Int)(m:List β):∀(l:List a),(l.map λx=>(m.map λy=>g x y).sum).sum=(m.map λy=>(l.map λx=>g x y).sum).sum
 | [] =>by rw[SG,List.sum_nil];exact(sum_zero (λy _=>rfl)).symm
 |x::l=>by
  rw[QW,RJ,sum_swap g m l,<-sum_add];simp_all
def sum_one{c:Type}{key:c->Int}:∀ {l:List c},(l.map key).Pairwise (·<·)->∀ {x},x∈l->(l.map λy=>ind (key x=key y)).sum=1
 | [],_,x,h=>Ah
 |y::l,b,x,a=>by
  rw[QW,Si]at b;rw[QW,RJ];rcases QY.1 a with rfl|a
  ·grind [ind_t,sum_zero,Rn,ind_f]
  ·have:=b.1 (key x) (Rn a)
   rw[ind_f Aa,sum_one b.2 a];rfl
def kids_sorted(h:SortN f) n:SortN (kidsN f n):=h.sublist ((List.filter_sublist).map Node.id)
def under_split(h:RightF f)(q:n∈f):∀ k {x},x∈f->(chN f x).length<=k->ind (underN f x n.id)=ind (x.id=n.id)+((kidsN f n.id).map λc=>ind (underN f x c.id)).sum
 |0,x,a,u=>by
  let⟨l,e⟩:=ch_self (f:=f) (x:=x);simp_all
 |k+1,x,a,u=>by
  have D:=(h.own n q).1;by_cases j:x.id=n.id
  ·have e:=bB9 h.so a q j
   subst e;rw[ind_t rfl,ind_t (p:=underN f x x.id),sum_zero]
   ·rfl
   ·intro c d
    let⟨b,m⟩:=mem_kids.1 d;refine ind_f ?_;rintro⟨y,i,e⟩;let⟨s,z⟩:=ch_in h _ a (QR _) i;have:y=c:=bB9 h.so s b e;grind [ch_child,QX]
   ·exact MK
  ·rw[ind_f j,Uw]
   by_cases t:x.parent=0
   ·have C:=ch_root (f:=f) t
    rw[ind_f,sum_zero]
    ·intro c d
     let⟨b,m⟩:=mem_kids.1 d;refine ind_f ?_;rintro⟨y,i,e⟩;rw[C]at i;rw[QT.1 i]at e;have:x=c:=bB9 h.so a b e;subst this;omega
    ·rintro⟨y,i,e⟩;simp_all
   ·let⟨p,F,v,G,H,w⟩:=par_get h a t
    have o:(chN f p).length<=k:=by rw[w,QX]at u;omega
    have E:=under_split h q k v o
    have A:underN f x n.id↔underN f p n.id:=by
     unfold underN;simp_all
    have B:∀c∈kidsN f n.id,ind (underN f x c.id)=ind (x.id=c.id)+ind (underN f p c.id):=by
     intro c d;let⟨b,m⟩:=mem_kids.1 d;by_cases r:x.id=c.id
     ·have:x=c:=bB9 h.so a b r
      subst this;rw[ind_t rfl,ind_t,ind_f]
      ·rfl
      ·rintro⟨y,i,e⟩
       let⟨s,z⟩:=ch_in h _ v (QR _) i;have:y=x:=bB9 h.so s a e;subst this;rw[w,QX]at z;omega
      ·exact MK
     ·simp_all [ind_f,Uw,QY,RS,underN]
    rw[show underN f x n.id=underN f p n.id from propext A,E,sum_congr B,sum_add];congr 1;by_cases g:p.id=n.id
    ·rw[ind_t g,sum_one (key:=Node.id) (kids_sorted h.so n.id) (mem_kids.2 ⟨a,Aa⟩)]
    ·rw[ind_f g,sum_zero]
     intro c d;let⟨b,m⟩:=mem_kids.1 d;refine ind_f λe=>g ?_;have:x=c:=bB9 h.so a b e
     subst this;omega
def allU(f:List Node)(g:Node->Int)(n:Int):Int:=(f.map λx=>ind (underN f x n)*g x).sum
def allU_step(h:RightF f) g(a:n∈f):allU f g n.id=g n+((kidsN f n.id).map λc=>allU f g c.id).sum:=by
 unfold allU;rw[<-sum_swap (λx c=>ind (underN f x c.id)*g x) (kidsN f n.id) f]
 have e:∀x∈f,ind (underN f x n.id)*g x=ind (x.id=n.id)*g x+((kidsN f n.id).map λc=>ind (underN f x c.id)*g x).sum:=by
  intro x b;rw[under_split h a _ b (QR _),Int.add_mul];congr 1;generalize kidsN f n.id=l
  induction l<;>grind
 rw[sum_congr e,sum_add];congr 1
 have d:∀x∈f,ind (x.id=n.id)*g x=ind (n.id=x.id)*g n:=by
  intro x b;by_cases c:x.id=n.id
  ·rw[ind_t c,ind_t c.symm,bB9 h.so b a c]
  ·rw[ind_f c,ind_f (λq=>c q.symm)];simp
 rw[sum_congr d];have i:=sum_one (key:=Node.id) h.so a
 have j:∀l:List Node,(l.map λx=>ind (n.id=x.id)*g n).sum=(l.map λx=>ind (n.id=x.id)).sum*g n:=by
  intro l
  induction l<;>grind
 rw[j,i,Int.one_mul]
def visitR(f:List Node)(g:Node->Int):Nat->Node->Int
 |0,n=>g n
 |k+1,n=>g n+((kidsN f n.id).map λc=>visitR f g k c).sum
def visit_all(h:RightF f) g:∀ k {n},n∈f->f.length+1<=k+(chN f n).length->visitR f g k n=allU f g n.id
 |0,n,a,i=>by
  rw[allU_step h g a]
  have:kidsN f n.id=[] :=by
   cases d:kidsN f n.id with
   |nil=>rfl
   |cons c l=>
    let⟨b,e⟩:=mem_kids.1 (show c∈kidsN f n.id by rw[d];simp)
    have:=ch_le (f:=f) (x:=c);grind [ch_child,QX]
  rw[this];show g n=g n+0;omega
 |k+1,n,a,i=>by
  rw[allU_step h g a];unfold visitR;congr 1;refine sum_congr λc d=>?_;let⟨b,e⟩:=mem_kids.1 d;refine visit_all h g k b ?_;rw[ch_child h b a e,QX];omega
end Go.Proofs.Led
namespace Go.Proofs.Led
open Go Go.Proofs Go.Ab Go.RowKit Go.Lib Tryz
def elG:ElT 25 36 9 96:=⟨underlying25,QL Ac,Ac,Ac,Ai,Ai⟩
def ovG:OvT 129 36:=λw b vb i g f vc cur a d hb hv c=>by
 rw[U1 func129 Ac Ac Ac (e:=Extern.SlicesOverlaps.overlaps #[25,25] #[4]) Ac,
  Lib.run_overlaps_apart w 25 4 36 underlying25 9 sizeOf36 ⟨vb,0,none⟩ ⟨b,i,none⟩ 1 vc g f d 36 36 a.size cur.size FP FQ c Cf Cf]
 rfl
def insG_all:InsShift 78 36 9/\InsEnd 78 36 9/\InsEndG 78 25 36/\InsGrow 78 25 36 9:=by
 have el:=elG;have U:=ovG
 have fF:=func78;have nF:=ntmps78
 have zE:=sizeOf36;have uS:=Rt underlying25
 have V:=SA;have W:=Tm;have Y:=Rt SA;have Z:=Rt Tm
 have mixed:=mixed;refine⟨?_,?_,?_,?_⟩
 ·intro b n c i vb vc cur e w hi hroom o hvb hb hv hbs hvs s h2
  have E:=λT S M=>U w b vb T S M vc cur e hvb hb hv Aa;obtain⟨X1,d,q,hcp2⟩:=el.shift (b:=b) (vb:=vb) (vc:=vc) hi hroom hbs hvs s h2;rw[<-d];clear d;have H:IntKind.i64.wrap ((i:Int)+1)=(i:Int)+1:=Az
  have I:IntKind.i64.wrap ((n:Int)+1)=(n:Int)+1:=Az;have J:¬((i:Int)=(n:Int)):=Aa
  have v:(0:Int)<=(i:Int)+1:=Aa;have G:((i:Int)+1).toNat=i+1:=Aa
  have L:((n:Int)+1).toNat=n+1:=Aa;have C:i<=n:=Aa
  have x:¬(c=i+1):=Aa;have y:(i:Int)<=(n:Int)+1:=Aa
  have z:¬(c=i):=Aa;have A:¬((c:Int)< (n:Int)+1):=Aa
  go_enter fF,nF
  go_wp2_with (simp only[E])
  have l:=q w.drew _ _ (n-i) (n+1-i) 3 (c- (i+1)) (c-i) hb rfl rfl Dh
  try simp only[Uj]at l
  go_region_law_o (refine step_copy_runI rfl _ _ _ _ rfl _ _ A7 A7 l ?_)
  exact Nk
 ·intro b n c vb vc cur e w hroom o hb hv hbs hvs h2
  exact Nu
 ·intro k n c j vb vc X w r hroom m hn hA
  go_enter fF,nF
  cases k with
  |none=>exact Jc
  |some a=>exact Jd
 ·intro b n c j i vb vc cur e R w hi r hroom m B hle hb hv hbs u hvs s h2 F
  have hbw:b<w.heap.size:=(Rk.1 hb).1;have hvw:vb<w.heap.size:=(Rk.1 hv).1
  obtain⟨X1,d,f,g⟩:=el.grow (b:=b) (vb:=vb) (vc:=vc) (N:=w.heap.size) hi r B hbs u hvs s h2;obtain⟨t,hO⟩:=el.nw w R;have hA:=f _ _ (n+1-i) 3 (j-i) t F9 rfl Aa;have K:=g ((World.setRow _ w.heap.size X1).drew) _ _ (n-i) (n-i) 3 (j- (i+1)) (c-i) (TB _ w.heap.size R X1 _ _ t) ((Ti _ w.heap.size b X1 Aa).trans FT) rfl rfl (Nat.min_self _)
  rw[<-d];clear d f g t hO;have H:IntKind.i64.wrap ((i:Int)+1)=(i:Int)+1:=Az;have I:IntKind.i64.wrap ((n:Int)+1)=(n:Int)+1:=Az
  have Q:IntKind.i64.wrap ((n:Int)+1- (i:Int))=(n:Int)+1- (i:Int):=Az;have J:¬((i:Int)=(n:Int)):=Aa
  have v:(0:Int)<=(i:Int)+1:=Aa;have G:((i:Int)+1).toNat=i+1:=Aa
  have C:i<=n:=Aa;have x:¬(j=i+1):=Aa
  have y:(i:Int)<=(n:Int)+1:=Aa;have z:¬(c=i):=Aa
  have A:(c:Int)< (n:Int)+1:=Aa;have O:¬(j=i):=Aa
  have P:(i:Int)<=(c:Int):=Aa;have D:j<=9223372036854775807:=E5
  try simp only[Uj]at hA K
  go_enter fF,nF
  go_wp2_with (first|simp only[hA,Rq] |(at_builtin;refine Lib.wpList_append_run _ rfl _ _ _ _ rfl _ _ rfl rfl _ _ (F _) ?_))
  go_region_law_o (refine step_copy_runI rfl _ _ _ _ rfl _ _ A7 A7 K ?_)
  go_wp2
  go_ret
  first|exact⟨rfl,rfl⟩|exact⟨rfl,Bh⟩
def insG_spec l x(i:Nat)(hi:i<=l.length)(a:l.length<=1000000000):Sp 78 [.own 36 l,I i, .own 36 [x]] (.own 36 (l.take i++x::l.drop i)):=
 ins_gen elG Ac insG_all.1 insG_all.2.1 insG_all.2.2.1 insG_all.2.2.2 l x i hi a
end Go.Proofs.Led
namespace Go.Proofs.Led
open Go Go.Proofs Go.Ab Tryz
def ndB_vc{g:FuncId}{t:Int}(v:∀m:Node,Sp g [nodeV m,I t] (I (cmpI (Node.id m) t)))(l:List Node)(J:l.length<=1000000)(u:(l.map Node.id).Pairwise (·<·)):fnVC T Tryz.prog Tryz.f56 [.sl (l.map nodeV),I t, .fn g []] (.tup [I (bs Node.id l t),DB (∃m∈l,Node.id m=t)]):=by
 have F:(l.map nodeV).length=l.length:=Ad
 repeat' ((conv=>whnf);first|refine zS ?_|refine zm (λx hx=>?_)|refine zT ?_ ?_<;>intro _|fail)
 refine aU (A:=Nat) (B:=Nat) (λi j=>mkSt [(0, .sl (l.map nodeV)),(1,I t),(2, .fn g []),(8,I l.length),(9,I i),(10,I j)] [] []) (λi j=>i<=j/\j<=l.length/\(∀k m,k<i->l[k]? =some m->Node.id m<t)/\∀k m,j<=k->l[k]? =some m->t<=Node.id m) (λi j=>j-i) 0 l.length ?_ ⟨Aa,Aa,λk m hk=>absurd hk Aa,λk m hk hm=>CB⟩ (λi j G=>?_)
 ·exact zj
 obtain⟨E,H,f,o⟩:=G;have c:i<=l.length:=Aa;by_cases w:i<j
 ·have D:(i+j)/2<l.length:=by omega
  have hm2:=QM D;generalize l[(i+j)/2] =m at hm2;have C:=v m
  have z:(i+j)/2<j:=Aa
  repeat' ((conv=>whnf);first|omega|refine fK (k:= .u64) (n:=(i:Int)+(j:Int)) (m:=(i:Int)+(j:Int)) (cD4 Aa) ?_|refine fK (k:= .i64) (n:=shrI .u64 ((i:Int)+(j:Int)) 1) (m:=(((i+j)/2:Nat):Int)) (bF1 Aa) ?_|refine zS ?_|refine zm (λx hx=>?_)|refine zT ?_ ?_<;>intro _|fail)
  all_goals conv=>whnf
  ·have hc:=cK6.1 Ag
   refine⟨((i+j)/2+1,j),?_,⟨Aa,Aa,λk y hk hy=>?_,o⟩,Aa⟩
   ·exact zj
   ·rcases RP k ((i+j)/2)with h|h
    ·exact Int.lt_trans (sorted_at u hy hm2 h) hc
    ·exact Jj
  ·have hc:=aU8.1 Ag
   refine⟨(i,(i+j)/2),?_,⟨Aa,Aa,f,λk y hk hy=>?_⟩,Aa⟩
   ·exact zj
   ·rcases RP ((i+j)/2) k with h|h
    ·exact Int.le_of_lt (Int.lt_of_le_of_lt hc (sorted_at u hm2 hy h))
    ·exact Jj
 ·have e:j=i:=by omega
  subst e;have r:=dC0 c f (λm hm=>o j m (QR _) hm);have a:=eC8 u f (λm hm=>o j m (QR _) hm)
  rw[r];generalize (∃m∈l,Node.id m=t)=P at*;by_cases s:j<l.length
  ·have hm2:=QM s
   generalize l[j] =m at hm2;have C:=v m;have q:P↔Node.id m=t:=a.1 m hm2
   have d:DB P=V.lit (.bool (eqB (cmpI (Node.id m) t) 0)):=Ru (λb=>V.lit (.bool b)) (sK (bP6.trans q.symm)).symm;rw[d];exact Nh
  ·have q:¬P:=a.2 (Tn Aa)
   have d:DB P=V.lit (.bool false):=Ru (λb=>V.lit (.bool b)) (dW.2 q);rw[d];exact Nh
def ndB_spec(a:∀m:Node,Sp g [nodeV m,I t] (I (cmpI (Node.id m) t))) l(b:l.length<=1000000)(c:(l.map Node.id).Pairwise (·<·)):Sp 56 [.sl (l.map nodeV),I t, .fn g []] (.tup [I (bs Node.id l t),DB (∃m∈l,Node.id m=t)]):=zsp func56 (ndB_vc a l b c)
def findNF_spec x t:Sp 57 [nodeV x,I t] (I (cmpI x.id t)):=by
 refine zsp func57 ?_;have a:=aB9 x.id t;exact OQ
def findN_spec f n(a:f.length<=1000000)(b:SortN f):Sp 21 [.sl (f.map nodeV),I n] (.tup [I (bs Node.id f n),DB (∃m∈f,m.id=n)]):=by
 refine zsp func21 ?_;have c:=ndB_spec (g:=57) (t:=n) (λm=>findNF_spec m n) f a b;generalize bs Node.id f n=k at*;generalize (∃m∈f,m.id=n)=P at*;exact OQ
def putG_spec l(i:Nat) x(hi:i<=l.length)(hl:l.length<=1000000000):Sp 78 [.own 36 (l.map nodeV),I i, .own 36 [nodeV x]] (.own 36 ((putAt l i x).map nodeV)):=by
 have h:=insG_spec (l.map nodeV) (nodeV x) i Ie BG;rw[aR0]at h;exact h
def addG_spec f x(c:f.length<=1000000)(d:SortN f):Sp 40 [.own 36 (f.map nodeV),nodeV x] (.own 36 ((addN f x).map nodeV)):=by
 refine zsp func40 ?_;have a:=findN_spec f x.id c d;have b:=putG_spec f (bs Node.id f x.id) x (bQ8 _ _ _) Aa
 unfold addN;generalize bs Node.id f x.id=k at*;generalize (∃m∈f,m.id=x.id)=P at*
 repeat' ((conv=>whnf);first|(refine aS5 (a) true ?_ rfl ?_;focus ((repeat' (first|exact trivial|refine And.intro ?_ ?_|with_reducible rfl|exact(λh=>Ah)|exact rfl));done))|refine zh (xX b) [] ?_|refine zS ?_|refine zm (λx e=>?_)|refine zT ?_ ?_<;>intro _|fail)
 all_goals exact zE
def stockNode_spec x p(a:eY x):Sp 41 [aQ x,I p] (nodeV (nodeOf x p)):=by
 refine zsp func41 ?_;have d:=vF x a;unfold nodeOf;generalize gG x=z at*;let⟨b,s,c,q⟩:=x;cases b;all_goals simp[Bool.false_eq_true,Uh,Uk]
 ·repeat' ((conv=>whnf);first|(exfalso;contradiction)|refine eZ1 Am ?_|refine zS ?_|refine zm (λx a=>?_)|refine zT ?_ ?_<;>intro _|fail)
  all_goals exact zE
 ·repeat' ((conv=>whnf);first|(exfalso;contradiction)|refine cC0 [(2,2),(5,5),(21,2),(22,2),(24,2),(25,2),(27,2),(28,2),(30,5),(31,5),(32,5),(33,5)] Af Am ?_|refine eZ1 Am ?_|refine zS ?_|refine zm (λx a=>?_)|refine zT ?_ ?_<;>intro _|fail)
  all_goals exact zE
def rightN_spec x:Sp 97 [nodeV x] (DB (ownP x)):=by
 refine zsp func97 ?_;have d:=aG6 x.part;have a:ownP x↔1<=x.id/\1<=x.kind/\x.kind<=3/\1<=x.size/\0<=x.scrap/\x.scrap<=x.size/\(x.gone=false->x.scrap=0)/\(x.kind=3->iM x.part/\x.parent≠0/\x.gone=false)/\(x.kind≠3->x.part=aI):=RF
 generalize ownP x=P at*;generalize iM x.part=q at*;let⟨i,k,p,g,h,t,z,o,c⟩:=x;simp only at a;cases o;all_goals simp[reduceCtorEq,false_implies,true_implies,and_false,U8,implies_true,true_and]at a
 all_goals repeat' ((conv=>whnf);first|(exfalso;contradiction)|omega|refine zS ?_|refine zm (λx e=>?_)|refine zT ?_ ?_<;>intro _|fail)
 all_goals conv=>whnf
 all_goals first
  |(refine aA (aC λb=>?_);replace a:=a.1 b;simp only at*;omega)
  |(refine aA (aC λb=>?_);replace a:=a.1 b;simp only at*;exact absurd (a.2.2.2.2.2.2.2.1 Aa).1 Ag)
  |(refine aA (aC λb=>?_);replace a:=a.1 b;simp only at*;exact absurd Ag (a.2.2.2.2.2.2.2.1 Aa).2)
  |(refine aA (aC λb=>?_);replace a:=a.1 b;simp only at*;exact absurd Ag a.2.2.2.2.2.2.1)
  |(refine aA (fE (a.2 ?_));simp only at*;exact⟨Aa,Aa,Aa,Aa,Aa,Aa,Aa,λ_=>⟨Ag,Aa⟩,λq=>absurd Ag q⟩)
  |(refine aA (qV ?_);simp only at*;exact⟨λq=>a.2 ⟨Aa,Aa,Aa,Aa,Aa,Aa,Aa,λq=>absurd q Ag,λ_=>q⟩,λq=>(a.1 q).2.2.2.2.2.2.2.2 Ag⟩)
  |(refine aA (qV ?_);simp only at*;exact⟨λq=>a.2 ⟨Aa,Aa,Aa,Aa,Aa,Aa,λq=>absurd q Ag,λ_=>q⟩,λq=>(a.1 q).2.2.2.2.2.2.2 Ag⟩)
abbrev rtB(f:List Node):List (List V):=[[.sl (f.map nodeV)],[.fn 144 [.box 100000 0, .box 100001 0]]]
def climb_none(a:x.parent≠0)(b:¬∃m∈f,m.id=x.parent):climbR f k x=false:=by
 cases k with
 |zero=>unfold climbR;exact decide_eq_false a
 |succ k=>
  unfold climbR;rw[Q9 a]
  cases h:getN f x.parent with
  |none=>rfl
  |some y=>exact absurd ⟨y,getN_mem h⟩ b
def climb_some(a:x.parent≠0)(b:getN f x.parent=some y):climbR f (k+1) x=climbR f k y:=by
 rw[climbR,Q9 a,b]
def climb1_spec(f:List Node)(g:f.length<=1000000)(d:SortN f):∀(k:Nat) (x:Node),k<=1000000->SpB 144 [nodeV x,I k, .box 100000 0, .box 100001 0] (rtB f) (V.lit (.bool (climbR f k x))) (rtB f):=by
 intro k
 induction k with
 |zero=>
  intro x r;refine b_of func144 Ac Ac rfl rfl ?_;have l:=findN_spec f x.parent g d;have c:climbR f 0 x=decide (x.parent=0):=rfl
  generalize bs Node.id f x.parent=j at*;generalize (∃m∈f,m.id=x.parent)=P at*;by_cases a:x.parent=0
  ·rw[c,decide_eq_true a]
   exact Oo
  ·rw[c,decide_eq_false a]
   exact Oc
 |succ k t=>
  intro x r;refine b_of func144 Ac Ac rfl rfl ?_;have l:=findN_spec f x.parent g d;by_cases a:x.parent=0
  ·have c:climbR f (k+1) x=true:=by unfold climbR;rw[QJ a]
   rw[c];exact Oo
  by_cases e:∃m∈f,m.id=x.parent
  ·obtain⟨y,i⟩:=getN_ex.1 e
   have o:=getN_bs d i;have q:=(QK.1 o).1
   rw[climb_some a i];have s:(f.map nodeV).length=f.length:=Ad
   have n:SpB 144 [nodeV y,I (((k+1:Nat):Int)-1), .box 100000 0, .box 100001 0] (rtB f) (V.lit (.bool (climbR f k y))) (rtB f):=by
    have:=t y Aa;rwa [show((k+1:Nat):Int)-1=(k:Int) from Aa]
   generalize climbR f k y=b at*;generalize bs Node.id f x.parent=j at*;generalize (∃m∈f,m.id=x.parent)=P at*
   repeat' ((conv=>whnf);first|omega|(exfalso;contradiction)|refine bW8 [] [(32,[88888])] trivial Am ?_|refine zh (n) [100000,100001] ?_|refine zS ?_|refine zm (λx hx=>?_)|refine zT ?_ ?_<;>intro _|fail)
   all_goals conv=>whnf
   all_goals first|exact⟨_,rfl,zc1⟩|exact zc1
  ·rw[climb_none a e]
   generalize bs Node.id f x.parent=j at*;generalize (∃m∈f,m.id=x.parent)=P at*;exact Oc
def rooted_spec f x(d:f.length<=1000000)(e:SortN f):Sp 98 [.sl (f.map nodeV),nodeV x] (V.lit (.bool (climbR f f.length x))):=by
 refine zsp func98 ?_;have c:=climb1_spec f d e f.length x d;have a:(f.map nodeV).length=f.length:=Ad
 generalize climbR f f.length x=b at*;rw[<-a]at c
 repeat' ((conv=>whnf);first|refine zh (c) [2,5] ?_|refine zS ?_|refine zm (λx g=>?_)|refine zT ?_ ?_<;>intro _|fail)
 all_goals exact zE
def putsV(ps:List (Int×Int)):List V:=ps.map λp=>V.tup [.lit (.int .i64 p.1),I p.2]
def look:List (Int×Int)->Int->Int
 | [],_=>0
 |p::ps,n=>if p.1=n then p.2 else look ps n
def assoc_look n:∀a,(jG (.int .i64 n) (putsV a)).getD (.lit (.int .i64 0))= .lit (.int .i64 (look a n))
 | [] =>rfl
 |p::a=>by
  have b:=assoc_look n a;unfold look;show(jG (.int .i64 n) (.tup [.lit (.int .i64 p.1),I p.2] ::putsV a)).getD _=_;by_cases h:p.1=n
  ·rw[QJ h,h,assoc_hit]
   rfl
  ·simp_all [Q9,assoc_miss]
def goneLeft(ps:List (Int×Int))(x:Node):Prop:=x.gone=true/\look ps x.id≠0
def rightF_spec a x:Sp 100 [nodeV x, .fp [V.mapV (.int .i64 0) (putsV a)]] (DB (goneLeft a x)):=by
 refine zsp func100 ?_;have d:=assoc_look x.id a;have b:goneLeft a x↔x.gone=true/\look a x.id≠0:=RF
 generalize goneLeft a x=P at*;generalize look a x.id=v at*;generalize e:putsV a=es at*;let⟨i,k,p,g,h,t,z,o,c⟩:=x;cases o
 ·repeat' ((conv=>whnf);first|(exfalso;contradiction)|refine zS ?_|refine zm (λx f=>?_)|refine zT ?_ ?_<;>intro _|fail)
  all_goals conv=>whnf
  all_goals exact aA (aC λq=>absurd (b.1 q).1 (λq=>EN))
 ·repeat' ((conv=>whnf);first|(exfalso;contradiction)|refine eV6 d ?_|refine zS ?_|refine zm (λx f=>?_)|refine zT ?_ ?_<;>intro _|fail)
  all_goals conv=>whnf
  all_goals exact aA (aF6 (dY0.trans ⟨λq=>b.2 ⟨rfl,q⟩,λq=>(b.1 q).2⟩))
def ndI_vc(k:∀m,Sp g (nodeV m:: [.fp c]) (DB (Q m))) l(q:l.length<=1000000):fnVC T Tryz.prog Tryz.f145 [.sl (l.map nodeV), .fn g [.fp c]] (I (fstI Q l)):=by
 have n:(l.map nodeV).length=l.length:=Ad
 repeat' ((conv=>whnf);first|refine zS ?_|refine zd (λhd=>?_) (λhd=>?_)|refine zl (λf=>?_) (λf=>?_)|refine zk (λd=>?_) (λd=>?_)|refine ze (λb=>?_) (λb=>?_)|refine zm (λx j=>?_)|refine zb (λa=>?_) (λa=>?_))
 refine aU (A:=List Node) (B:=List Node) (λD R=>mkSt [(0, .sl (l.map nodeV)),(1, .fn g [.fp c]),(7,I l.length),(8,I D.length)] [] [])
  (λD R=>l=D++R/\∀m∈D,¬Q m) (λD R=>R.length) [] l ?_ ⟨rfl,Ad⟩ (λD R o=>?_)
 ·exact zj
 ·let⟨h1,h2⟩:=o
  have i:l.length=D.length+R.length:=Bo;have hD:∀y∈D,(!decB (Q y))=true:=λy hy=>Ce
  cases R with
  |nil=>
   have e:l=D:=Bo;simp at i
   repeat' ((conv=>whnf);first|omega|refine zS ?_|refine zd (λhd=>?_) (λhd=>?_)|refine zl (λf=>?_) (λf=>?_)|refine zk (λd=>?_) (λd=>?_)|refine ze (λb=>?_) (λb=>?_)|refine zm (λx j=>?_)|refine zb (λa=>?_) (λa=>?_))
   exact Q8
  |cons x R=>
   rw[QX]at i
   repeat' ((conv=>whnf);first|omega|refine zc (k x) ?_|refine zS ?_|refine zd (λhd=>?_) (λhd=>?_)|refine zl (λf=>?_) (λf=>?_)|refine zk (λd=>?_) (λd=>?_)|refine ze (λb=>?_) (λb=>?_)|refine zm (λx j=>?_)|refine zb (λa=>?_) (λa=>?_))
   ·exact Jb
   ·exact II
def ndI_spec(a:∀m,Sp g (nodeV m:: [.fp c]) (DB (Q m))) l(b:l.length<=1000000):Sp 145 [.sl (l.map nodeV), .fn g [.fp c]] (I (fstI Q l)):=zsp func145 (ndI_vc a l b)
def ndC_vc{Q:Node->Prop}(f:∀m,Sp g (nodeV m:: [.fp c]) (DB (Q m)))(l:List Node)(i:l.length<=1000000):fnVC T Tryz.prog Tryz.f99 [.sl (l.map nodeV), .fn g [.fp c]] (DB (∃m∈l,Q m)):=by
 repeat' ((conv=>whnf);first|refine zc (ndI_spec f l i) ?_|refine zS ?_|refine zd (λe=>?_) (λe=>?_)|refine zl (λhlt=>?_) (λhlt=>?_)|refine zk (λd=>?_) (λd=>?_)|refine ze (λb=>?_) (λb=>?_)|refine zm (λx j=>?_)|refine zb (λa=>?_) (λa=>?_))
 exact Nc
def ndC_spec{Q:Node->Prop}(a:∀m,Sp g (nodeV m:: [.fp c]) (DB (Q m)))(l:List Node)(b:l.length<=1000000):Sp 99 [.sl (l.map nodeV), .fn g [.fp c]] (DB (∃m∈l,Q m)):=zsp func99 (ndC_vc a l b)
def baseN(f:List Node)(n:Int):Int:=match getN f n with
 |some x=>x.size-x.scrap
 |none=>0
def base_some(h:getN f n=some x):baseN f n=x.size-x.scrap:=by unfold baseN;rw[h]
def base_none(h:∀x∈f,x.id≠n):baseN f n=0:=by unfold baseN;rw[getN_none.2 h]
theorem getN_snoc:getN (D++[x]) n=(getN D n).or (if x.id=n then some x else none):=by
 unfold getN;simp_all
def base_snoc(h:∀y∈D,y.id≠x.id) n:baseN (D++[x]) n=if x.id=n then x.size-x.scrap else baseN D n:=by
 unfold baseN;rw[getN_snoc];by_cases c:x.id=n
 ·rw[QJ c,QJ c,getN_none.2 (λy a e=>h y a Aa)]
  rfl
 ·rw[Q9 c,Q9 c]
  cases getN D n<;>rfl
theorem ksum_snoc D x n:ksum (D++[x]) n=ksum D n+if x.parent=n then x.size else 0:=by unfold ksum;simp
theorem ksum_app D R n:ksum (D++R) n=ksum D n+ksum R n:=by unfold ksum;rw[Rw,List.sum_append]
def ksum_pos(h:∀x∈R,1<=x.size) n:0<=ksum R n:=by
 unfold ksum
 induction R<;>grind
def sort_snoc(a:SortN D)(b:D=E++[y])(h:y.id<x.id):SortN (D++[x]):=by
 show((D++[x]).map Node.id).Pairwise _;rw[Rw,RN];grind
end Go.Proofs.Led
