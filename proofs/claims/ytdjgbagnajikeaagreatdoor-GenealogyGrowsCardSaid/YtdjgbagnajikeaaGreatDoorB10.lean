/-
  The inventory: what is found by its identity.
-/
import Derived.Test.YtdjgbagnajikeaaGreatDoorB8
set_option linter.unusedVariables false
set_option linter.unusedSimpArgs false
set_option maxRecDepth 1000000
set_option maxHeartbeats 8000000
noncomputable section
namespace Go.Proofs.Led
open Go Go.Proofs Go.Ab
theorem bZ0{b:Type}{Q:b->Prop}:∀ {l:List b} {x:b},x∈l->Q x->(∀y∈l,Q y->y=x)->l[fst Q l]? =some x
 | [],x,h,_,_=>Ah
 |y::l,x,h,a,d=>by
  by_cases c:Q y
  ·simp_all [TW,Q5,dH,fst]
  ·have e:fst Q (y::l)=fst Q l+1:=by
    simp_all [TW,Q9,dW,fst]
   rw[e,RG];rcases QO.1 h with h|h
   ·rw[h]at a;exact absurd a c
   ·exact bZ0 h a (λz hz=>d z Ip)
theorem bB9{a:Type}{key:a->Int}:∀ {l:List a},(l.map key).Pairwise (·<·)->∀ {x y:a},x∈l->y∈l->key x=key y->x=y
 | [],_,x,y,h,_,_=>Ah
 |z::l,d,x,y,g,f,e=>by
  rw[QW,RH]at d;rcases QO.1 g with c|c<;>rcases QO.1 f with b|b
  ·rw[c,b]
  ·grind [Rq]
  ·grind [Rq]
  ·exact bB9 d.2 c b e
theorem eF7{s:aJ}{n:Nat}(h:Ok s n){x:aN}(a:x∈s.stocks):s.stocks[fst (λy=>sid y=sid x) s.stocks]? =some x:=
 bZ0 a rfl (λy b e=>bB9 h.ss b a e)
theorem dK2{s:aJ}{n:Nat}(h:Ok s n){x:Piece}(a:x∈s.pieces):s.pieces[fst (λy=>y.id=x.id) s.pieces]? =some x:=
 bZ0 a rfl (λy b e=>bB9 h.sp b a e)
theorem cC8(n:Int)(x:Piece):Sp 65 [aZ x, .fp [I n]] (DB (x.id=n)):=by
 refine zsp Tryz.func65 ?_;exact Pn
theorem bZ9(n:Int)(x:aN):Sp 67 [aQ x, .fp [I n]] (DB (sid x=n)):=by
 refine zsp Tryz.func67 ?_;have a:=aE2 x;exact Pn
theorem fB2{g:FuncId}{c:List V}{Q:Piece->Prop}(hg:∀m,Sp g (aZ m:: [.fp c]) (DB (Q m)))(l:List Piece)(b:l.length<=1000000):fnVC T Tryz.prog Tryz.f64 [.sl (l.map aZ), .fn g [.fp c]] (I (fstI Q l)):=by
 have a:(l.map aZ).length=l.length:=Ae
 repeat' ((conv=>whnf);first|refine zS ?_|fail)
 refine aU (A:=List Piece) (B:=List Piece) (λD R=>mkSt [(0, .sl (l.map aZ)),(1, .fn g [.fp c]),(7,I l.length),(8,I D.length)] [] [])
  (λD R=>l=D++R/\∀m∈D,¬Q m) (λD R=>R.length) [] l ?_ ⟨rfl,Ae⟩ (λD R hp=>?_)
 ·exact zj
 ·exact Iz
theorem dY3{g:FuncId}{c:List V}{Q:Piece->Prop}(a:∀m,Sp g (aZ m:: [.fp c]) (DB (Q m)))(l:List Piece)(b:l.length<=1000000):Sp 64 [.sl (l.map aZ), .fn g [.fp c]] (I (fstI Q l)):=zsp Tryz.func64 (fB2 a l b)
theorem fA9{g:FuncId}{c:List V}{Q:aN->Prop}(hg:∀m,Sp g (aQ m:: [.fp c]) (DB (Q m)))(l:List aN)(b:l.length<=1000000):fnVC T Tryz.prog Tryz.f66 [.sl (l.map aQ), .fn g [.fp c]] (I (fstI Q l)):=by
 have a:(l.map aQ).length=l.length:=Ae
 repeat' ((conv=>whnf);first|refine zS ?_|fail)
 refine aU (A:=List aN) (B:=List aN) (λD R=>mkSt [(0, .sl (l.map aQ)),(1, .fn g [.fp c]),(7,I l.length),(8,I D.length)] [] [])
  (λD R=>l=D++R/\∀m∈D,¬Q m) (λD R=>R.length) [] l ?_ ⟨rfl,Ae⟩ (λD R hp=>?_)
 ·exact zj
 ·exact Iz
theorem eH2{g:FuncId}{c:List V}{Q:aN->Prop}(a:∀m,Sp g (aQ m:: [.fp c]) (DB (Q m)))(l:List aN)(b:l.length<=1000000):Sp 66 [.sl (l.map aQ), .fn g [.fp c]] (I (fstI Q l)):=zsp Tryz.func66 (fA9 a l b)
def piece0:Piece:=⟨0,0,aI,aI,aI,0,false,0,aI⟩
def bF5(s:aJ)(n:Int):aN:=(s.stocks[fst (λx=>sid x=n) s.stocks]?).getD wS
def bF0(s:aJ)(n:Int):Piece:=(s.pieces[fst (λx=>x.id=n) s.pieces]?).getD piece0
theorem eD1{c:Type}{Q:c->Prop}{l:List c}:fst Q l<l.length↔∃m∈l,Q m:=by
 by_cases h:fst Q l<l.length
 ·refine⟨λ_=>?_,λ_=>h⟩
  apply Um;intro d;exact iO.2 (λm a b=>d ⟨m,a,b⟩) h
 ·refine⟨λq=>absurd q h,λ⟨m,a,b⟩=>absurd b (iO.1 h m a)⟩
theorem bH9(s:aJ)(n:Int)(a:s.stocks.length<=1000000):Sp 35 [invV s,I n] (.tup [aQ (bF5 s n),DB (∃m∈s.stocks,sid m=n)]):=by
 refine zsp Tryz.func35 ?_;have h1:=eH2 (c:=[I n]) (λx=>bZ9 n x) s.stocks a;have hs:bF5 s n=(s.stocks[fst (λx=>sid x=n) s.stocks]?).getD wS:=rfl
 have hlt:=eD1 (Q:=λx:aN=>sid x=n) (l:=s.stocks);have hi:fstI (λx:aN=>sid x=n) s.stocks=if fst (λx=>sid x=n) s.stocks<s.stocks.length then(fst (λx=>sid x=n) s.stocks:Int)else-1:=rfl
 generalize fstI (λx:aN=>sid x=n) s.stocks=z at*;generalize fst (λx:aN=>sid x=n) s.stocks=k at*;generalize (∃m∈s.stocks,sid m=n)=P at*;have d:(s.stocks.map aQ).length=s.stocks.length:=Ae
 conv=>whnf
 refine dJ4 Unit (λ_=>mkSt [(2, .box 2 0),(3, .fp [I n]),(4, .box 4 0),(5,B false)] [(2,invC s),(4,dA5)] []) (λ_=>True) ?_ ?_
 ·exact Jd
 intro _ _;by_cases c:k<s.stocks.length
 ·rw[Q9 c]at hi
  have hP:P:=hlt.1 c;have hg:s.stocks[k]? =some (bF5 s n):=G7
  exact NG
 ·rw[Q5 c]at hi
  have hP:¬P:=λh=>c (hlt.2 h);have hg:bF5 s n=wS:=FD
  exact NF
theorem bG3(s:aJ)(n:Int)(a:s.pieces.length<=1000000):Sp 34 [invV s,I n] (.tup [aZ (bF0 s n),DB (∃m∈s.pieces,m.id=n)]):=by
 refine zsp Tryz.func34 ?_;have h1:=dY3 (c:=[I n]) (λx=>cC8 n x) s.pieces a;have hs:bF0 s n=(s.pieces[fst (λx=>x.id=n) s.pieces]?).getD piece0:=rfl
 have hlt:=eD1 (Q:=λx:Piece=>x.id=n) (l:=s.pieces);have hi:fstI (λx:Piece=>x.id=n) s.pieces=if fst (λx=>x.id=n) s.pieces<s.pieces.length then(fst (λx=>x.id=n) s.pieces:Int)else-1:=rfl
 generalize fstI (λx:Piece=>x.id=n) s.pieces=z at*;generalize fst (λx:Piece=>x.id=n) s.pieces=k at*;generalize (∃m∈s.pieces,m.id=n)=P at*;have d:(s.pieces.map aZ).length=s.pieces.length:=Ae
 conv=>whnf
 refine dJ4 Unit (λ_=>mkSt [(2, .box 2 0),(3, .fp [I n]),(4, .box 4 0),(5,B false)] [(2,invC s),(4,dZ8 piece0)] []) (λ_=>True) ?_ ?_
 ·exact Jd
 intro _ _;by_cases c:k<s.pieces.length
 ·rw[Q9 c]at hi
  have hP:P:=hlt.1 c;have hg:s.pieces[k]? =some (bF0 s n):=G7
  exact NG
 ·rw[Q5 c]at hi
  have hP:¬P:=λh=>c (hlt.2 h);have hg:bF0 s n=piece0:=FD
  exact NF
structure Node where
 id:Int
 kind:Int
 parent:Int
 grade:ByteArray
 heat:ByteArray
 part:ByteArray
 size:Int
 gone:Bool
 scrap:Int
def nodeC(x:Node):List V:=[I x.id,I x.kind,I x.parent,S x.grade,S x.heat,S x.part,I x.size,B x.gone,I x.scrap]
def nodeV(x:Node):V:= .agg (nodeC x)
def node0:Node:=⟨0,0,0,aI,aI,aI,0,false,0⟩
def nodeOf(x:aN)(p:Int):Node:=if x.isBar then⟨x.bar.id,2,p,x.bar.grade,x.bar.heat,aI,gG x,false,0⟩else⟨x.sheet.id,1,p,x.sheet.grade,x.sheet.heat,aI,gG x,false,0⟩
def pieceN(p:Piece)(q:Int):Node:=⟨p.id,3,q,p.grade,p.heat,p.part,p.size,false,0⟩
def addN(f:List Node)(n:Node):List Node:=putAt f (bs Node.id f n.id) n
def goneN(x:Node)(sc:Int):Node:={x with gone:=true,scrap:=sc}
def cutsN(f:List Node)(s:aJ)(l:List Made):List Node:=l.foldl (λf c=>addN f (pieceN (bF0 s c.id) (bF0 s c.id).parent)) f
def restsN(f:List Node)(s:aJ)(n:Int)(l:List Rest):List Node:=l.foldl (λf r=>addN f (nodeOf (bF5 s r.id) n)) f
def growN(f:List Node)(s:aJ)(e:Event):List Node:=restsN (cutsN f s e.cuts) s e.id e.rests
def goneAt(f:List Node)(i:Nat)(e:Event):List Node:=match f[i]? with
 |some x=>f.set i (goneN x (if e.kind=8 then x.size else e.scrap))
 |none=>f
def followN(f:List Node)(s:aJ)(e:Event):List Node:=
 if e.kind=1 then addN f (nodeOf ⟨false,e.sheet,bar0,aI⟩ 0)
 else if e.kind=2 then addN f (nodeOf ⟨true,dN,e.bar,aI⟩ 0)
 else if e.kind=8\/e.kind=5 then growN (goneAt f (bs Node.id f e.id) e) s e else growN f s e
theorem nodeOf_id(x:aN)(p:Int):(nodeOf x p).id=sid x:=by
 unfold nodeOf sid;split<;>rfl
theorem nodeOf_gone(x:aN)(p:Int):(nodeOf x p).gone=false/\(nodeOf x p).scrap=0/\(nodeOf x p).parent=p/\(nodeOf x p).part=aI/\(nodeOf x p).size=gG x:=by
 grind [nodeOf]
def newI(s:aJ)(e:Event):List Int:=if e.kind=1 then [e.sheet.id]else if e.kind=2 then [e.bar.id]else e.cuts.map (λc=>(bF0 s c.id).id)++e.rests.map λr=>sid (bF5 s r.id)
structure FitN(f:List Node)(s:aJ)(e:Event):Prop where
 so:(f.map Node.id).Pairwise (·<·)
 ln:f.length<=1000000
 ex:(e.kind=8\/e.kind=5)->∃x∈f,x.id=e.id
 nw:∀i∈newI s e,∀x∈f,x.id≠i
 df:(newI s e).Pairwise (·≠·)
def fitAll(s:aJ)(f:List Node):List Event->Prop
 | [] =>True
 |e::l=>(appR s e).2=0->FitN f (appR s e).1 e/\fitAll (appR s e).1 (followN f (appR s e).1 e) l
def buildF(s:aJ)(f:List Node)(i:Int):List Event->List Node×Int×Int
 | [] =>(f,i,0)
 |e::l=>if(appR s e).2=0 then buildF (appR s e).1 (followN f (appR s e).1 e) (i+1) l else(f,i,(appR s e).2)
abbrev SortN(f:List Node):Prop:=(f.map Node.id).Pairwise (·<·)
def getN(f:List Node)(n:Int):Option Node:=f.find? λx=>decide (x.id=n)
theorem getN_mem{f:List Node}{n:Int}{x:Node}(h:getN f n=some x):x∈f/\x.id=n:=⟨List.mem_of_find?_eq_some h,by have:=List.find?_some h;simpa using this⟩
theorem getN_some{f:List Node}(b:SortN f){x:Node}(a:x∈f):getN f x.id=some x:=by
 cases h:getN f x.id with
 |none=>exact absurd (List.find?_eq_none.1 h x a) Ae
 |some y=>
  obtain⟨c,d⟩:=getN_mem h;rw[bB9 b c a d]
theorem getN_none{f:List Node}{n:Int}:getN f n=none↔∀x∈f,x.id≠n:=by
 unfold getN;rw[List.find?_eq_none];simp
theorem getN_bs{f:List Node}(a:SortN f){n:Int}{x:Node}(h:getN f n=some x):f[bs Node.id f n]? =some x:=by
 obtain⟨d,c⟩:=getN_mem h;obtain⟨y,b,e⟩:=aB8 a ⟨x,d,c⟩;rw[b,bB9 a (fC b) d (by rw[e,c])]
theorem getN_ex{f:List Node}{n:Int}:(∃x∈f,x.id=n)↔∃x,getN f n=some x:=by
 constructor
 ·rintro⟨x,a,e⟩
  cases h:getN f n with
  |none=>exact absurd e (getN_none.1 h x a)
  |some y=>exact⟨y,rfl⟩
 ·rintro⟨x,a⟩
  exact⟨x,getN_mem a⟩
def climbR(f:List Node):Nat->Node->Bool
 |0,x=>decide (x.parent=0)
 |k+1,x=>if x.parent=0 then true else match getN f x.parent with
  |some y=>climbR f k y
  |none=>false
def chainR(f:List Node):Nat->Node->List Node
 |0,x=> [x]
 |k+1,x=>if x.parent=0 then [x]else match getN f x.parent with
  |some y=>x::chainR f k y
  |none=> [x]
def ownP(x:Node):Prop:=1<=x.id/\1<=x.kind/\x.kind<=3/\1<=x.size/\0<=x.scrap/\x.scrap<=x.size/\(x.gone=false->x.scrap=0)/\
 (x.kind=3->iM x.part/\x.parent≠0/\x.gone=false)/\(x.kind≠3->x.part=aI)
def linkN(x p:Node):Prop:=p.gone=true/\p.grade=x.grade/\p.heat=x.heat/\(x.kind=3\/x.kind=p.kind)
def ksum(f:List Node)(n:Int):Int:=(f.map λx=>if x.parent=n then x.size else 0).sum
def parN(f:List Node)(x:Node):Prop:=x.parent≠0->∃p,getN f x.parent=some p/\linkN x p
structure RightF(f:List Node):Prop where
 own:∀x∈f,ownP x
 so:SortN f
 par:∀x∈f,parN f x
 up:∀x∈f,climbR f f.length x=true
 sum:∀g∈f,g.gone=true->ksum f g.id=g.size-g.scrap
theorem chain_mono{f:List Node}:∀ {k:Nat} {x:Node},climbR f k x=true->chainR f (k+1) x=chainR f k x
 |0,x,h=>by
  simp_all [Q9,QC,climbR,chainR]
 |k+1,x,h=>by
  unfold climbR at h;rw[chainR,chainR];by_cases c:x.parent=0
  ·rw[Q9 c,Q9 c]
  ·rw[Q5 c]at h
   rw[Q5 c,Q5 c];cases a:getN f x.parent<;>simp_all [chain_mono]
theorem chain_len{f:List Node}:∀ {k:Nat} {x:Node},1<=(chainR f k x).length/\(chainR f k x).length<=k+1
 |0,x=>⟨QH _,QH _⟩
 |k+1,x=>by
  unfold chainR;split
  ·exact⟨QH _,Ae⟩
  ·split
   ·simp_all [chain_len,QM]
   ·exact⟨QH _,Ae⟩
def chN(f:List Node)(x:Node):List Node:=chainR f f.length x
theorem ch_root{f:List Node}{x:Node}(a:x.parent=0):chN f x=[x] :=by
 unfold chN;cases f.length<;>simp_all [Q9,chainR]
theorem ch_step{f:List Node}(h:∀x∈f,climbR f f.length x=true){x y:Node}(a:x∈f)(d:x.parent≠0)(b:getN f x.parent=some y):chN f x=x::chN f y:=by
 have e:=h x a;have c:0<f.length:=List.length_pos_of_mem a
 obtain⟨k,g⟩:∃k,f.length=k+1:=⟨f.length-1,Aa⟩;simp_all [Q5,chain_mono,chN,climbR,chainR]
theorem ch_self{f:List Node}{x:Node}:∃l,chN f x=x::l:=JZ
theorem ch_le{f:List Node}{x:Node}:(chN f x).length<=f.length+1:=chain_len.2
section
variable{f:List Node}(h:RightF f)
include h
theorem par_get{x:Node}(b:x∈f)(c:x.parent≠0):∃y,getN f x.parent=some y/\y∈f/\y.id=x.parent/\linkN x y/\chN f x=x::chN f y:=by
 obtain⟨y,a,d⟩:=h.par x b c;obtain⟨g,e⟩:=getN_mem a;exact⟨y,a,g,e,d,ch_step h.up b c a⟩
theorem ch_in:∀(n:Nat) {x y:Node},x∈f->(chN f x).length<=n->y∈chN f x->y∈f/\(chN f y).length<=(chN f x).length
 |0,x,y,b,c,a=>by
  simp_all
 |n+1,x,y,b,c,a=>by
  by_cases d:x.parent=0
  ·rw[ch_root d]at a
   rw[QI.1 a];exact⟨b,QH _⟩
  ·obtain⟨p,m,g,j,l,e⟩:=par_get h b d
   rw[e]at a c⊢;rcases QO.1 a with rfl|a
   ·exact⟨b,by rw[e];exact QH _⟩
   ·simp only[QM]at c⊢
    obtain⟨i,k⟩:=ch_in n g Aa a;exact⟨i,Aa⟩
theorem ch_child{x p:Node}(b:x∈f)(a:p∈f)(e:x.parent=p.id):chN f x=x::chN f p:=by
 have k:=(h.own p a).1;obtain⟨y,j,c,g,i,d⟩:=par_get h b Aa;rw[d,bB9 h.so c a Aa]
end
def underN(f:List Node)(x:Node)(n:Int):Prop:=∃y∈chN f x,y.id=n
open Classical in
def ind(p:Prop):Int:=if p then 1 else 0
theorem ind_t{p:Prop}(h:p):ind p=1:=Q9 h
theorem ind_f{p:Prop}(h:¬p):ind p=0:=Q5 h
def kidsN(f:List Node)(n:Int):List Node:=f.filter λx=>decide (x.parent=n)
theorem mem_kids{f:List Node}{n:Int}{x:Node}:x∈kidsN f n↔x∈f/\x.parent=n:=by unfold kidsN;simp
theorem sum_zero{a:Type}{g:a->Int}:∀ {l:List a},(∀x∈l,g x=0)->(l.map g).sum=0
 | [],_=>rfl
 |x::l,h=>by rw[QW,Tf,h x (by simp),sum_zero (λy b=>h y (by simp[b]))];rfl
theorem sum_add{a:Type}{g k:a->Int}:∀ {l:List a},(l.map λx=>g x+k x).sum=(l.map g).sum+(l.map k).sum
 | [] =>rfl
 |x::l=>by rw[QW,Tf,sum_add (l:=l),QW,Tf,QW,Tf];omega
theorem sum_congr{a:Type}{g k:a->Int}{l:List a}(h:∀x∈l,g x=k x):(l.map g).sum=(l.map k).sum:=by rw[SE h]
theorem sum_swap{a β:Type}(g:a->β->Int)(m:List β):∀(l:List a),(l.map λx=>(m.map λy=>g x y).sum).sum=(m.map λy=>(l.map λx=>g x y).sum).sum
 | [] =>by rw[RY,List.sum_nil];exact(sum_zero (λy _=>rfl)).symm
 |x::l=>by
  rw[QW,Tf,sum_swap g m l,<-sum_add];simp_all
theorem sum_one{c:Type}{key:c->Int}:∀ {l:List c},(l.map key).Pairwise (·<·)->∀ {x:c},x∈l->(l.map λy=>ind (key x=key y)).sum=1
 | [],_,x,h=>Ah
 |y::l,b,x,a=>by
  rw[QW,RH]at b;rw[QW,Tf];rcases QO.1 a with rfl|a
  ·grind [ind_t,sum_zero,Rq,ind_f]
  ·have:=b.1 (key x) (Rq a)
   rw[ind_f Aa,sum_one b.2 a];rfl
theorem kids_sorted{f:List Node}(h:SortN f)(n:Int):SortN (kidsN f n):=h.sublist ((List.filter_sublist).map Node.id)
theorem under_split{f:List Node}(h:RightF f){n:Node}(r:n∈f):∀(k:Nat) {x:Node},x∈f->(chN f x).length<=k->ind (underN f x n.id)=ind (x.id=n.id)+((kidsN f n.id).map λc=>ind (underN f x c.id)).sum
 |0,x,a,t=>by
  obtain⟨l,e⟩:=ch_self (f:=f) (x:=x);simp_all
 |k+1,x,a,t=>by
  have B:=(h.own n r).1;by_cases j:x.id=n.id
  ·have e:x=n:=bB9 h.so a r j
   subst e;rw[ind_t rfl,ind_t (p:=underN f x x.id),sum_zero]
   ·rfl
   ·intro c d
    obtain⟨i,q⟩:=mem_kids.1 d;refine ind_f ?_;rintro⟨y,b,e⟩;obtain⟨s,z⟩:=ch_in h _ a (QH _) b;have:y=c:=bB9 h.so s i e;grind [ch_child,QM]
   ·exact MF
  ·rw[ind_f j,U3]
   by_cases w:x.parent=0
   ·have D:=ch_root (f:=f) w
    rw[ind_f,sum_zero]
    ·intro c d
     obtain⟨i,q⟩:=mem_kids.1 d;refine ind_f ?_;rintro⟨y,b,e⟩;rw[D]at b;rw[QI.1 b]at e;have:x=c:=bB9 h.so a i e;subst this;omega
    ·rintro⟨y,b,e⟩;simp_all
   ·obtain⟨p,G,u,F,H,v⟩:=par_get h a w
    have m:(chN f p).length<=k:=by rw[v,QM]at t;omega
    have A:=under_split h r k u m
    have C:underN f x n.id↔underN f p n.id:=by
     unfold underN;simp_all
    have E:∀c∈kidsN f n.id,ind (underN f x c.id)=ind (x.id=c.id)+ind (underN f p c.id):=by
     intro c d;obtain⟨i,q⟩:=mem_kids.1 d;by_cases o:x.id=c.id
     ·have:x=c:=bB9 h.so a i o
      subst this;rw[ind_t rfl,ind_t,ind_f]
      ·rfl
      ·rintro⟨y,b,e⟩
       obtain⟨s,z⟩:=ch_in h _ u (QH _) b;have:y=x:=bB9 h.so s a e;subst this;rw[v,QM]at z;omega
      ·exact MF
     ·simp_all [ind_f,U3,QO,SB,underN]
    rw[show underN f x n.id=underN f p n.id from propext C,A,sum_congr E,sum_add];congr 1;by_cases g:p.id=n.id
    ·rw[ind_t g,sum_one (key:=Node.id) (kids_sorted h.so n.id) (mem_kids.2 ⟨a,Aa⟩)]
    ·rw[ind_f g,sum_zero]
     intro c d;obtain⟨i,q⟩:=mem_kids.1 d;refine ind_f λe=>g ?_;have:x=c:=bB9 h.so a i e
     subst this;omega
def allU(f:List Node)(g:Node->Int)(n:Int):Int:=(f.map λx=>ind (underN f x n)*g x).sum
theorem allU_step{f:List Node}(h:RightF f)(g:Node->Int){n:Node}(b:n∈f):allU f g n.id=g n+((kidsN f n.id).map λc=>allU f g c.id).sum:=by
 unfold allU;rw[<-sum_swap (λx c=>ind (underN f x c.id)*g x) (kidsN f n.id) f]
 have e:∀x∈f,ind (underN f x n.id)*g x=ind (x.id=n.id)*g x+((kidsN f n.id).map λc=>ind (underN f x c.id)*g x).sum:=by
  intro x a;rw[under_split h b _ a (QH _),Int.add_mul];congr 1;generalize kidsN f n.id=l
  induction l<;>grind
 rw[sum_congr e,sum_add];congr 1
 have j:∀x∈f,ind (x.id=n.id)*g x=ind (n.id=x.id)*g n:=by
  intro x a;by_cases c:x.id=n.id
  ·rw[ind_t c,ind_t c.symm,bB9 h.so a b c]
  ·rw[ind_f c,ind_f (λq=>c q.symm)];simp
 rw[sum_congr j];have d:=sum_one (key:=Node.id) h.so b
 have i:∀l:List Node,(l.map λx=>ind (n.id=x.id)*g n).sum=(l.map λx=>ind (n.id=x.id)).sum*g n:=by
  intro l
  induction l<;>grind
 rw[i,d,Int.one_mul]
def visitR(f:List Node)(g:Node->Int):Nat->Node->Int
 |0,n=>g n
 |k+1,n=>g n+((kidsN f n.id).map λc=>visitR f g k c).sum
theorem visit_all{f:List Node}(h:RightF f)(g:Node->Int):∀(k:Nat) {n:Node},n∈f->f.length+1<=k+(chN f n).length->visitR f g k n=allU f g n.id
 |0,n,a,i=>by
  rw[allU_step h g a]
  have:kidsN f n.id=[] :=by
   cases b:kidsN f n.id with
   |nil=>rfl
   |cons c l=>
    obtain⟨d,e⟩:=mem_kids.1 (show c∈kidsN f n.id by rw[b];simp)
    have:=ch_le (f:=f) (x:=c);grind [ch_child,QM]
  rw[this];show g n=g n+0;omega
 |k+1,n,a,i=>by
  rw[allU_step h g a];unfold visitR;congr 1;refine sum_congr λc b=>?_;obtain⟨d,e⟩:=mem_kids.1 b;refine visit_all h g k d ?_;rw[ch_child h d a e,QM];omega
end Go.Proofs.Led
namespace Go.Proofs.Led
open Go Go.Proofs Go.Ab Go.RowKit Go.Lib
theorem elG:ElT 25 42 9 96:=⟨Tryz.underlying25,QC Ac,Ac,Ac,Ai,Ai⟩
theorem ovG:OvT 174 42:=λw b vb i f g vc cur a c hb hv d=>by
 rw[Uu Tryz.func174 Ac Ac Ac (e:=Extern.SlicesOverlaps.overlaps #[25,25] #[4]) Ac,
  Lib.run_overlaps_apart w 25 4 42 Tryz.underlying25 9 Tryz.sizeOf42 ⟨vb,0,none⟩ ⟨b,i,none⟩ 1 vc f g c 42 42 a.size cur.size FI FK d Cb Cb]
 rfl
theorem insG_all:InsShift 127 42 9/\InsEnd 127 42 9/\InsEndG 127 25 42/\InsGrow 127 25 42 9:=by
 have el:=elG;have O:=ovG
 have fF:=Tryz.func127;have nF:=Tryz.ntmps127
 have zE:=Tryz.sizeOf42;have W:=Rf Tryz.underlying25
 have t3:=RU;have Y:=SN;have V:=Rf RU;have Z:=Rf SN
 have mixed:=mixed;refine⟨?_,?_,?_,?_⟩
 ·intro b n c i vb vc cur e w hi hroom q hvb hb hv hbs hvs y h2
  have A:=λT P Q=>O w b vb T P Q vc cur e hvb hb hv Aa;obtain⟨X1,d,l,hcp2⟩:=el.shift (b:=b) (vb:=vb) (vc:=vc) hi hroom hbs hvs y h2;rw[<-d];clear d;have t:IntKind.i64.wrap ((i:Int)+1)=(i:Int)+1:=Aw
  have v:IntKind.i64.wrap ((n:Int)+1)=(n:Int)+1:=Aw;have z:¬((i:Int)=(n:Int)):=Aa
  have F:(0:Int)<=(i:Int)+1:=Aa;have E:((i:Int)+1).toNat=i+1:=Aa
  have L:((n:Int)+1).toNat=n+1:=Aa;have G:i<=n:=Aa
  have C:¬(c=i+1):=Aa;have u:(i:Int)<=(n:Int)+1:=Aa
  have s:¬(c=i):=Aa;have H:¬((c:Int)< (n:Int)+1):=Aa
  go_enter fF,nF
  go_wp2_with (simp only[A])
  have r:=l w.drew _ _ (n-i) (n+1-i) 3 (c- (i+1)) (c-i) hb rfl rfl Dh
  try simp only[Ub]at r
  go_region_law_o (refine step_copy_runI rfl _ _ _ _ rfl _ _ Az Az r ?_)
  exact Na
 ·intro b n c vb vc cur e w hroom q hb hv hbs hvs h2
  exact Nl
 ·intro o n c j vb vc X w k hroom m hn hA
  go_enter fF,nF
  cases o with
  |none=>exact IU
  |some a=>exact IV
 ·intro b n c j i vb vc cur e R w hi k hroom m J hle hb hv hbs I hvs y h2 D
  have hbw:b<w.heap.size:=(QT.1 hb).1;have hvw:vb<w.heap.size:=(QT.1 hv).1
  obtain⟨X1,d,g,f⟩:=el.grow (b:=b) (vb:=vb) (vc:=vc) (N:=w.heap.size) hi k J hbs I hvs y h2;obtain⟨x,hO⟩:=el.nw w R;have hA:=g _ _ (n+1-i) 3 (j-i) x F7 rfl Aa;have K:=f ((World.setRow _ w.heap.size X1).drew) _ _ (n-i) (n-i) 3 (j- (i+1)) (c-i) (SY _ w.heap.size R X1 _ _ x) ((SI _ w.heap.size b X1 Aa).trans FM) rfl rfl (Nat.min_self _)
  rw[<-d];clear d g f x hO;have t:IntKind.i64.wrap ((i:Int)+1)=(i:Int)+1:=Aw;have v:IntKind.i64.wrap ((n:Int)+1)=(n:Int)+1:=Aw
  have M:IntKind.i64.wrap ((n:Int)+1- (i:Int))=(n:Int)+1- (i:Int):=Aw;have z:¬((i:Int)=(n:Int)):=Aa
  have F:(0:Int)<=(i:Int)+1:=Aa;have E:((i:Int)+1).toNat=i+1:=Aa
  have G:i<=n:=Aa;have C:¬(j=i+1):=Aa
  have u:(i:Int)<=(n:Int)+1:=Aa;have s:¬(c=i):=Aa
  have H:(c:Int)< (n:Int)+1:=Aa;have S:¬(j=i):=Aa
  have U:(i:Int)<=(c:Int):=Aa;have B:j<=9223372036854775807:=Ey
  try simp only[Ub]at hA K
  go_enter fF,nF
  go_wp2_with (first|simp only[hA,QX] |(at_builtin;refine Lib.wpList_append_run _ rfl _ _ _ _ rfl _ _ rfl rfl _ _ (D _) ?_))
  go_region_law_o (refine step_copy_runI rfl _ _ _ _ rfl _ _ Az Az K ?_)
  go_wp2
  go_ret
  first|exact⟨rfl,rfl⟩|exact⟨rfl,Be⟩
theorem insG_spec(l:List V)(x:V)(i:Nat)(hi:i<=l.length)(a:l.length<=1000000000):Sp 127 [.own 42 l,I i, .own 42 [x]] (.own 42 (l.take i++x::l.drop i)):=
 ins_gen elG Ac insG_all.1 insG_all.2.1 insG_all.2.2.1 insG_all.2.2.2 l x i hi a
end Go.Proofs.Led
namespace Go.Proofs.Led
open Go Go.Proofs Go.Ab
theorem ndB_vc{g:FuncId}{t:Int}(w:∀m:Node,Sp g [nodeV m,I t] (I (cmpI (Node.id m) t)))(l:List Node)(H:l.length<=1000000)(q:(l.map Node.id).Pairwise (·<·)):fnVC T Tryz.prog Tryz.f100 [.sl (l.map nodeV),I t, .fn g []] (.tup [I (bs Node.id l t),DB (∃m∈l,Node.id m=t)]):=by
 have F:(l.map nodeV).length=l.length:=Ae
 repeat' ((conv=>whnf);first|refine zS ?_|refine zm (λx hx=>?_)|refine zT ?_ ?_<;>intro _|fail)
 refine aU (A:=Nat) (B:=Nat) (λi j=>mkSt [(0, .sl (l.map nodeV)),(1,I t),(2, .fn g []),(8,I l.length),(9,I i),(10,I j)] [] []) (λi j=>i<=j/\j<=l.length/\(∀k m,k<i->l[k]? =some m->Node.id m<t)/\∀k m,j<=k->l[k]? =some m->t<=Node.id m) (λi j=>j-i) 0 l.length ?_ ⟨Aa,Aa,λk m hk=>absurd hk Aa,λk m hk hm=>Cj⟩ (λi j D=>?_)
 ·exact zj
 obtain⟨E,J,d,u⟩:=D;have a:i<=l.length:=Aa;by_cases z:i<j
 ·have G:(i+j)/2<l.length:=by omega
  have hm2:=QE G;generalize l[(i+j)/2] =m at hm2;have C:=w m
  have v:(i+j)/2<j:=Aa
  repeat' ((conv=>whnf);first|omega|refine fK (k:= .u64) (n:=(i:Int)+(j:Int)) (m:=(i:Int)+(j:Int)) (cD4 Aa) ?_|refine fK (k:= .i64) (n:=shrI .u64 ((i:Int)+(j:Int)) 1) (m:=(((i+j)/2:Nat):Int)) (bF1 Aa) ?_|refine zS ?_|refine zm (λx hx=>?_)|refine zT ?_ ?_<;>intro _|fail)
  all_goals conv=>whnf
  ·have hc:=cK6.1 Ag
   refine⟨((i+j)/2+1,j),?_,⟨Aa,Aa,λk y hk hy=>?_,u⟩,Aa⟩
   ·exact zj
   ·rcases Ry k ((i+j)/2)with h|h
    ·exact Int.lt_trans (sorted_at q hy hm2 h) hc
    ·exact Jc
  ·have hc:=aU8.1 Ag
   refine⟨(i,(i+j)/2),?_,⟨Aa,Aa,d,λk y hk hy=>?_⟩,Aa⟩
   ·exact zj
   ·rcases Ry ((i+j)/2) k with h|h
    ·exact Int.le_of_lt (Int.lt_of_le_of_lt hc (sorted_at q hm2 hy h))
    ·exact Jc
 ·have e:j=i:=by omega
  subst e;have s:=dC0 a d (λm hm=>u j m (QH _) hm);have c:=eC8 q d (λm hm=>u j m (QH _) hm)
  rw[s];generalize (∃m∈l,Node.id m=t)=P at*;by_cases f:j<l.length
  ·have hm2:=QE f
   generalize l[j] =m at hm2;have C:=w m;have r:P↔Node.id m=t:=c.1 m hm2
   have o:DB P=V.lit (.bool (eqB (cmpI (Node.id m) t) 0)):=Rh (λb=>V.lit (.bool b)) (sK (bP6.trans r.symm)).symm;rw[o];exact MX
  ·have r:¬P:=c.2 (SS Aa)
   have o:DB P=V.lit (.bool false):=Rh (λb=>V.lit (.bool b)) (dW.2 r);rw[o];exact MX
theorem ndB_spec{g:FuncId}{t:Int}(a:∀m:Node,Sp g [nodeV m,I t] (I (cmpI (Node.id m) t)))(l:List Node)(c:l.length<=1000000)(b:(l.map Node.id).Pairwise (·<·)):Sp 100 [.sl (l.map nodeV),I t, .fn g []] (.tup [I (bs Node.id l t),DB (∃m∈l,Node.id m=t)]):=zsp Tryz.func100 (ndB_vc a l c b)
theorem findNF_spec(x:Node)(t:Int):Sp 101 [nodeV x,I t] (I (cmpI x.id t)):=by
 refine zsp Tryz.func101 ?_;have a:=aB9 x.id t;exact OQ
theorem findN_spec(f:List Node)(n:Int)(b:f.length<=1000000)(a:SortN f):Sp 47 [.sl (f.map nodeV),I n] (.tup [I (bs Node.id f n),DB (∃m∈f,m.id=n)]):=by
 refine zsp Tryz.func47 ?_;have c:=ndB_spec (g:=101) (t:=n) (λm=>findNF_spec m n) f b a;generalize bs Node.id f n=k at*;generalize (∃m∈f,m.id=n)=P at*;exact OQ
theorem putG_spec(l:List Node)(i:Nat)(x:Node)(hi:i<=l.length)(hl:l.length<=1000000000):Sp 127 [.own 42 (l.map nodeV),I i, .own 42 [nodeV x]] (.own 42 ((putAt l i x).map nodeV)):=by
 have h:=insG_spec (l.map nodeV) (nodeV x) i H7 BD;rw[aR0]at h;exact h
theorem addG_spec(f:List Node)(x:Node)(b:f.length<=1000000)(a:SortN f):Sp 83 [.own 42 (f.map nodeV),nodeV x] (.own 42 ((addN f x).map nodeV)):=by
 refine zsp Tryz.func83 ?_;have d:=findN_spec f x.id b a;have c:=putG_spec f (bs Node.id f x.id) x (bQ8 _ _ _) Aa
 unfold addN;generalize bs Node.id f x.id=k at*;generalize (∃m∈f,m.id=x.id)=P at*
 repeat' ((conv=>whnf);first|(refine aS5 (d) true ?_ rfl ?_;focus ((repeat' (first|exact trivial|refine And.intro ?_ ?_|with_reducible rfl|exact(λh=>Ah)|exact rfl));done))|refine zh (xX c) [] ?_|refine zS ?_|refine zm (λx e=>?_)|refine zT ?_ ?_<;>intro _|fail)
 all_goals exact zE
theorem stockNode_spec(x:aN)(p:Int)(a:eY x):Sp 84 [aQ x,I p] (nodeV (nodeOf x p)):=by
 refine zsp Tryz.func84 ?_;have d:=vF x a;unfold nodeOf;generalize gG x=z at*;obtain⟨b,s,c,q⟩:=x;cases b;all_goals simp only[Bool.false_eq_true,Ue,TQ]
 ·repeat' ((conv=>whnf);first|(exfalso;contradiction)|refine eZ1 Ak ?_|refine zS ?_|refine zm (λx a=>?_)|refine zT ?_ ?_<;>intro _|fail)
  all_goals exact zE
 ·repeat' ((conv=>whnf);first|(exfalso;contradiction)|refine cC0 [(2,2),(5,5),(21,2),(22,2),(24,2),(25,2),(27,2),(28,2),(30,5),(31,5),(32,5),(33,5)] Af Ak ?_|refine eZ1 Ak ?_|refine zS ?_|refine zm (λx a=>?_)|refine zT ?_ ?_<;>intro _|fail)
  all_goals exact zE
theorem le_refl{T:Tab}{σ:St}:Le T σ σ:=by
 unfold Le;exact λΦ a w G inv=>⟨G,inv⟩
theorem loop_0{T:Tab}{σ:St}{x:aA2}{Q:Exit->St->Prop}(h:x σ λe a=>match e with
 | .normal=>∃p':Unit,Le T a σ/\True/\0<0
 |e=>Q e a):bI0 T x σ Q:=lD (A:=Unit) (λ_=>σ) (λ_=>True) (λ_=>0) () le_refl trivial (λ_ _=>h)
theorem cutsN_snoc(f:List Node)(s:aJ)(D:List Made)(c:Made):cutsN f s (D++[c])=addN (cutsN f s D) (pieceN (bF0 s c.id) (bF0 s c.id).parent):=by unfold cutsN;simp
theorem restsN_snoc(f:List Node)(s:aJ)(n:Int)(D:List Rest)(r:Rest):restsN f s n (D++[r])=addN (restsN f s n D) (nodeOf (bF5 s r.id) n):=by unfold restsN;simp
theorem map_set2(f:List Node)(k:Nat)(x y:Node):((f.map nodeV).set ((k:Int)).toNat (nodeV y)).set ((k:Int)).toNat (nodeV x)=(f.set k x).map nodeV:=by
 simp_all
theorem map_set3(f:List Node)(k:Nat)(x y z:Node):(((f.map nodeV).set ((k:Int)).toNat (nodeV z)).set ((k:Int)).toNat (nodeV y)).set ((k:Int)).toNat (nodeV x)=(f.set k x).map nodeV:=by
 simp_all
def folA(s:aJ)(e:Event)(F:List Node)(D:List Made):St:=mkSt [(0, .arr 0 D.length),(4, .box 4 0),(5, .box 5 0),(68, .sl (e.cuts.map dK)),(69,I e.cuts.length),(70,I D.length)] [(4,invC s),(5,iJ e)] [(0,⟨D.length, .own,42,F.map nodeV⟩)]
def folB(s:aJ)(e:Event)(F:List Node)(g:Nat)(D:List Rest):St:=mkSt [(0, .arr 0 (g+D.length)),(4, .box 4 0),(5, .box 5 0),(98, .sl (e.rests.map bY)),(99,I e.rests.length),(100,I D.length)] [(4,invC s),(5,iJ e)] [(0,⟨g+D.length, .own,42,F.map nodeV⟩)]
structure FolOk(f:List Node)(s:aJ)(e:Event):Prop where
 so:SortN f
 ln:f.length<=1000000
 ev:iY e
 lp:s.pieces.length<=1000000
 ls:s.stocks.length<=1000000
 sz:∀n,eY (bF5 s n)
 sh:e.kind=1->lK e.sheet
 no:e.kind≠5->e.cuts=[]/\e.rests=[]
theorem fol1_vc(f:List Node)(s:aJ)(e:Event)(h:FolOk f s e)(a:e.kind=1):fnVC T Tryz.prog Tryz.f40 [.own 42 (f.map nodeV),invV s,aS e] (.own 42 ((followN f s e).map nodeV)):=by
 have c:=stockNode_spec ⟨false,e.sheet,bar0,aI⟩ 0 ⟨h.sh a,Ro _⟩;have b:=addG_spec f (nodeOf ⟨false,e.sheet,bar0,aI⟩ 0) h.ln h.so
 unfold followN;rw[Q9 a];exact MX
theorem fol2_vc(f:List Node)(s:aJ)(e:Event)(h:FolOk f s e)(a:e.kind=2):fnVC T Tryz.prog Tryz.f40 [.own 42 (f.map nodeV),invV s,aS e] (.own 42 ((followN f s e).map nodeV)):=by
 have c:=stockNode_spec ⟨true,dN,e.bar,aI⟩ 0 ⟨xZ,h.ev.br⟩;have b:=addG_spec f (nodeOf ⟨true,dN,e.bar,aI⟩ 0) h.ln h.so
 unfold followN;rw[Q5 Aa,Q9 a];exact MX
theorem fol8_vc(f:List Node)(s:aJ)(e:Event)(x:Node)(h:FolOk f s e)(g:e.kind=8)(b:f[bs Node.id f e.id]? =some x):fnVC T Tryz.prog Tryz.f40 [.own 42 (f.map nodeV),invV s,aS e] (.own 42 ((followN f s e).map nodeV)):=by
 obtain⟨c,a⟩:=h.no Aa;have o:=findN_spec f e.id h.ln h.so;have n:=(QD.1 b).1
 have hll:(f.map nodeV).length=f.length:=Ae;have l:=h.ln
 have d:followN f s e=f.set (bs Node.id f e.id) (goneN x x.size):=by
  unfold followN growN goneAt;rw[Q5 Aa,Q5 Aa,Q9 (.inl g),b,c,a];simp only[Q9 g];rfl
 have j:(e.cuts.map dK).length=0:=by rw[c];rfl
 have i:(e.rests.map bY).length=0:=by rw[a];rfl
 rw[d,<-map_set3 f _ (goneN x x.size) {x with gone:=true,scrap:=e.scrap} {x with gone:=true}];clear d h c a;generalize bs Node.id f e.id=k at*;generalize (∃m∈f,m.id=e.id)=P at*
 repeat' ((conv=>whnf);first|omega|refine cC0 [(0,77777),(5,5),(45,77777),(47,77777),(49,5),(51,77777),(52,77777),(53,77777),(54,77777)] Af Ak ?_|(refine aS5 (o) true ?_ rfl ?_;focus ((repeat' (first|exact trivial|refine And.intro ?_ ?_|with_reducible rfl|exact(λh=>Ah)|exact rfl));done))|refine dS rfl rfl Fb ?_|refine dS rfl rfl BV ?_|refine dB8 rfl rfl ?_|refine cV1 rfl Gg ?_|refine loop_0 ?_|refine zS ?_|refine zm (λx b=>?_)|refine zT ?_ ?_<;>intro _|fail)
 all_goals exact zE
theorem fol5_vc(f F0:List Node)(s:aJ)(e:Event)(x:Node)(h:FolOk f s e)(w:e.kind=5)(hx:f[bs Node.id f e.id]? =some x)(t:F0=f.set (bs Node.id f e.id) (goneN x e.scrap))
 (u:∀D R,e.cuts=D++R->SortN (cutsN F0 s D)/\(cutsN F0 s D).length<=1000000)(C:∀D R,e.rests=D++R->SortN (restsN (cutsN F0 s e.cuts) s e.id D)/\(restsN (cutsN F0 s e.cuts) s e.id D).length<=1000000):
 fnVC T Tryz.prog Tryz.f40 [.own 42 (f.map nodeV),invV s,aS e] (.own 42 ((followN f s e).map nodeV)):=by
 have y:=findN_spec f e.id h.ln h.so;have K:=(QD.1 hx).1
 have hll:(f.map nodeV).length=f.length:=Ae;have N:=h.ln
 have F:=h.ev.ct;have E:=h.ev.rs
 have r:(e.cuts.map dK).length=e.cuts.length:=Ae;have l:(e.rests.map bY).length=e.rests.length:=Ae
 have v:followN f s e=restsN (cutsN F0 s e.cuts) s e.id e.rests:=by
  unfold followN growN goneAt;rw[Q5 Aa,Q5 Aa,Q9 (.inr w),hx,t];simp only[Q5 (show¬e.kind=8 from Aa)]
 have O:F0.map nodeV=((f.map nodeV).set ((bs Node.id f e.id:Nat):Int).toNat (nodeV {x with gone:=true})).set ((bs Node.id f e.id:Nat):Int).toNat (nodeV (goneN x e.scrap)):=by rw[t,map_set2]
 rw[v];have z:=h.lp;have G:=h.ls
 have M:=h.sz;clear v h t;generalize bs Node.id f e.id=k at*;generalize (∃m∈f,m.id=e.id)=P at*
 repeat' ((conv=>whnf);first|omega|refine cC0 [(0,77777),(5,5),(45,77777),(47,77777),(49,5),(51,77777),(52,77777),(53,77777),(54,77777)] Af Ak ?_|(refine aS5 (y) true ?_ rfl ?_;focus ((repeat' (first|exact trivial|refine And.intro ?_ ?_|with_reducible rfl|exact(λh=>Ah)|exact rfl));done))|refine dS rfl rfl Fb ?_|refine dS rfl rfl BV ?_|refine dB8 rfl rfl ?_|refine cV1 rfl Gg ?_|refine zS ?_|refine zm (λx hx=>?_)|refine zT ?_ ?_<;>intro _|fail)
 refine aU (A:=List Made) (B:=List Made) (λD R=>folA s e (cutsN F0 s D) D) (λD R=>e.cuts=D++R) (λD R=>R.length) [] e.cuts ?_ rfl (λD R hp2=>?_)
 ·show Le T _ (mkSt [(0, .arr 0 0),(4, .box 4 0),(5, .box 5 0),(68, .sl (e.cuts.map dK)),(69,I e.cuts.length),(70,I 0)] [(4,invC s),(5,iJ e)] [(0,⟨0, .own,42,F0.map nodeV⟩)])
  rw[O,<-r];exact zj
 cases R with
 |cons c R=>
  have g:=aO hp2;have q:((D++[c]).length:Int)=(D.length:Int)+1:=Ae
  obtain⟨n,j⟩:=u D (c::R) hp2;have L:=bG3 s c.id z;have H:=addG_spec (cutsN F0 s D) (pieceN (bF0 s c.id) (bF0 s c.id).parent) j n
  have d:=cutsN_snoc F0 s D c;generalize bF0 s c.id=o at*;generalize (∃m∈s.pieces,m.id=c.id)=Q at*;generalize addN (cutsN F0 s D) (pieceN o o.parent)=J at*;generalize cutsN F0 s D=a at*
  repeat' ((conv=>whnf);first|omega|refine zS ?_|refine zm (λx hx=>?_)|refine zT ?_ ?_<;>intro _|fail)
  all_goals conv=>whnf
  refine⟨(D++[c],R),?_,G8,Ae⟩;show Le T _ (folA s e (cutsN F0 s (D++[c])) (D++[c]));rw[d];unfold folA;exact MQ
 |nil=>
  have g:e.cuts.length=D.length:=G8;have i:e.cuts=D:=G8
  clear u;rw[<-i]at*;clear hp2 i;generalize cutsN F0 s e.cuts=a at*
  repeat' ((conv=>whnf);first|omega|refine zS ?_|refine zm (λx hx=>?_)|refine zT ?_ ?_<;>intro _|fail)
  refine aU (A:=List Rest) (B:=List Rest) (λD R=>folB s e (restsN a s e.id D) e.cuts.length D) (λD R=>e.rests=D++R) (λD R=>R.length) [] e.rests ?_ rfl (λD R hp2=>?_)
  ·show Le T _ (mkSt [(0, .arr 0 e.cuts.length),(4, .box 4 0),(5, .box 5 0),(98, .sl (e.rests.map bY)),(99,I e.rests.length),(100,I 0)] [(4,invC s),(5,iJ e)] [(0,⟨e.cuts.length, .own,42,a.map nodeV⟩)])
   rw[<-l];exact zj
  cases R with
  |cons c R=>
   have b:=aO hp2;have q:((D++[c]).length:Int)=(D.length:Int)+1:=Ae
   obtain⟨n,j⟩:=C D (c::R) hp2;have L:=bH9 s c.id G;have H:=stockNode_spec (bF5 s c.id) e.id (M c.id)
   have S:=addG_spec (restsN a s e.id D) (nodeOf (bF5 s c.id) e.id) j n;have d:=restsN_snoc a s e.id D c
   generalize addN (restsN a s e.id D) (nodeOf (bF5 s c.id) e.id)=V at*;generalize nodeOf (bF5 s c.id) e.id=U at*;generalize bF5 s c.id=o at*;generalize (∃m∈s.stocks,sid m=c.id)=Q at*;generalize restsN a s e.id D=J at*
   repeat' ((conv=>whnf);first|omega|refine zS ?_|refine zm (λx hx=>?_)|refine zT ?_ ?_<;>intro _|fail)
   all_goals conv=>whnf
   refine⟨(D++[c],R),?_,G8,Ae⟩;show Le T _ (folB s e (restsN a s e.id (D++[c])) e.cuts.length (D++[c]));rw[d];unfold folB;simp only[QG,QK,<-Td];exact zj
  |nil=>
   have b:e.rests.length=D.length:=G8;have i:e.rests=D:=G8
   rw[i];exact MX
theorem fol0_vc(f:List Node)(s:aJ)(e:Event)(h:FolOk f s e)(b:e.kind≠1/\e.kind≠2/\e.kind≠5/\e.kind≠8):fnVC T Tryz.prog Tryz.f40 [.own 42 (f.map nodeV),invV s,aS e] (.own 42 ((followN f s e).map nodeV)):=by
 obtain⟨c,a⟩:=h.no b.2.2.1;have i:(e.cuts.map dK).length=0:=by rw[c];rfl
 have g:(e.rests.map bY).length=0:=by rw[a];rfl
 have d:followN f s e=f:=by
  unfold followN growN;rw[Q5 b.1,Q5 b.2.1,Q5 Aa,c,a];rfl
 rw[d];clear d h c a
 repeat' ((conv=>whnf);first|omega|refine loop_0 ?_|refine zS ?_|refine zm (λx j=>?_)|refine zT ?_ ?_<;>intro _|fail)
 all_goals exact zE
theorem foldN_sorted{xs f:List Node}(h:SortN f)(b:∀x∈xs,∀y∈f,y.id≠x.id)(a:(xs.map Node.id).Pairwise (·≠·)):SortN (xs.foldl addN f)/\(xs.foldl addN f).length=f.length+xs.length/\∀y,y∈xs.foldl addN f↔y∈f\/y∈xs:=by
 have:=bE9 (key:=Node.id) h b a;exact⟨this.1,this.2.2,this.2.1⟩
theorem cutsN_fold{s:aJ}:∀ {l:List Made} {f:List Node},cutsN f s l=(l.map λc=>pieceN (bF0 s c.id) (bF0 s c.id).parent).foldl addN f
 | [],f=>rfl
 |c::l,f=>by unfold cutsN;rw[RF,QW,RF];exact cutsN_fold
theorem restsN_fold{s:aJ}{n:Int}:∀ {l:List Rest} {f:List Node},restsN f s n l=(l.map λr=>nodeOf (bF5 s r.id) n).foldl addN f
 | [],f=>rfl
 |c::l,f=>by unfold restsN;rw[RF,QW,RF];exact restsN_fold
theorem fit_folds{f:List Node}{s:aJ}{e:Event}(h:FitN f s e)(L:e.kind=5)(O:iY e){x:Node}(G:f[bs Node.id f e.id]? =some x)(N:f.length+e.cuts.length+e.rests.length<=1000000):
 (∀D R,e.cuts=D++R->SortN (cutsN (f.set (bs Node.id f e.id) (goneN x e.scrap)) s D)/\(cutsN (f.set (bs Node.id f e.id) (goneN x e.scrap)) s D).length<=1000000)/\
 ∀D R,e.rests=D++R->SortN (restsN (cutsN (f.set (bs Node.id f e.id) (goneN x e.scrap)) s e.cuts) s e.id D)/\(restsN (cutsN (f.set (bs Node.id f e.id) (goneN x e.scrap)) s e.cuts) s e.id D).length<=1000000:=by
 have C:newI s e=e.cuts.map (λc=>(bF0 s c.id).id)++e.rests.map λr=>sid (bF5 s r.id):=by unfold newI;rw[Q5 (by omega),Q5 (by omega)]
 have g:(f.set (bs Node.id f e.id) (goneN x e.scrap)).map Node.id=f.map Node.id:=bY6 G rfl;have u:SortN (f.set (bs Node.id f e.id) (goneN x e.scrap)):=by show(_:List Int).Pairwise _;rw[g];exact h.so
 have b:∀y∈f.set (bs Node.id f e.id) (goneN x e.scrap),∀i∈newI s e,y.id≠i:=λy a i hi=>by
  have:y.id∈f.map Node.id:=by rw[<-g];exact Rq a
  obtain⟨z,o,q⟩:=QZ.1 this;rw[<-q];exact h.nw i hi z o
 have j:=h.df;rw[C]at j b;have w:(f.set (bs Node.id f e.id) (goneN x e.scrap)).length=f.length:=Ae
 generalize f.set (bs Node.id f e.id) (goneN x e.scrap)=F at*
 have m:∀D R,e.cuts=D++R->SortN (cutsN F s D)/\(cutsN F s D).length=F.length+D.length/\∀y∈cutsN F s D,y∈F\/∃c∈D,y.id=(bF0 s c.id).id:=by
  intro D R d;rw[cutsN_fold];have q:(D.map λc=>pieceN (bF0 s c.id) (bF0 s c.id).parent).map Node.id=D.map λc=>(bF0 s c.id).id:=by rw[Uc];rfl
  obtain⟨n,t,v⟩:=foldN_sorted (xs:=D.map λc=>pieceN (bF0 s c.id) (bF0 s c.id).parent) u (λz o y a=>by
   obtain⟨c,k,rfl⟩:=QZ.1 o
   exact b y a _ (QJ.2 (.inl (QZ.2 ⟨c,by rw[d];simp[k],rfl⟩)))) (by
   rw[q];have:=(Rx.1 j).1;rw[d,Rl]at this;exact(Rx.1 this).1)
  refine⟨n,by rw[t,QS],λy a=>?_⟩
  rcases(v y).1 a with a|a
  ·exact .inl a
  ·obtain⟨c,k,rfl⟩:=QZ.1 a
   exact .inr ⟨c,k,rfl⟩
 refine⟨λD R d=>?_,λD R d=>?_⟩
 ·obtain⟨n,t,_⟩:=m D R d
  have:=Rh List.length d;rw[QG]at this;exact⟨n,Aa⟩
 ·obtain⟨H,M,I⟩:=m e.cuts [] (QU _).symm
  rw[restsN_fold]
  have q:(D.map λr=>nodeOf (bF5 s r.id) e.id).map Node.id=D.map λr=>sid (bF5 s r.id):=by
   rw[Uc];exact SE λr _=>nodeOf_id _ _
  obtain⟨K,A,E⟩:=Rx.1 j
  obtain⟨n,t,v⟩:=foldN_sorted (xs:=D.map λr=>nodeOf (bF5 s r.id) e.id) H (λz o y a=>by
   obtain⟨r,J,rfl⟩:=QZ.1 o;rw[nodeOf_id];have l:sid (bF5 s r.id)∈e.rests.map λr=>sid (bF5 s r.id):=QZ.2 ⟨r,by rw[d];simp[J],rfl⟩
   rcases I y a with a|⟨c,k,B⟩
   ·exact b y a _ (QJ.2 (.inr l))
   ·rw[B]
    exact E _ (QZ.2 ⟨c,k,rfl⟩) _ l) (by
   rw[q];rw[d,Rl]at A;exact(Rx.1 A).1)
  have:=Rh List.length d;rw[QG]at this;rw[QS]at t;exact⟨n,Aa⟩
theorem follow_spec(f:List Node)(s:aJ)(e:Event)(h:FolOk f s e)(c:FitN f s e)(m:f.length+e.cuts.length+e.rests.length<=1000000):Sp 40 [.own 42 (f.map nodeV),invV s,aS e] (.own 42 ((followN f s e).map nodeV)):=by
 refine zsp Tryz.func40 ?_;by_cases j:e.kind=1
 ·exact fol1_vc f s e h j
 by_cases k:e.kind=2
 ·exact fol2_vc f s e h k
 by_cases i:e.kind=8
 ·obtain⟨x,d,l⟩:=aB8 c.so (c.ex (.inl i))
  exact fol8_vc f s e x h i d
 by_cases g:e.kind=5
 ·obtain⟨x,d,l⟩:=aB8 c.so (c.ex (.inr g))
  obtain⟨a,b⟩:=fit_folds c g h.ev d m;exact fol5_vc f _ s e x h g d rfl a b
 exact fol0_vc f s e h ⟨j,k,g,i⟩
theorem find_sized{s:aJ}{n:Nat}(h:Ok s n)(i:Int):eY (bF5 s i):=by
 unfold bF5
 cases a:s.stocks[fst (λx=>sid x=i) s.stocks]? with
 |none=>exact⟨xZ,by simp[wS,bar0]⟩
 |some x=>exact h.sz x (fC a)
theorem fol_ok{f:List Node}{s s':aJ}{e:Event}{n:Nat}(hs:Ok s n)(hs':Ok s' n)(hn:n<=1000000)(he:iY e)(h0:(appR s e).2=0)(hf:FitN f s' e):FolOk f s' e where
 so:=hf.so
 ln:=hf.ln
 ev:=he
 lp:=QV hs'.lp hn
 ls:=QV hs'.ls hn
 sz:=find_sized hs'
 sh:=λhk=>aX9 ((aZ6 hs h0).1.2.2.2.1 hk).2
 no:=λhk=>by
  have:=(aZ6 hs h0).1.2.2.1 hk;simp_all
theorem addN_len(f:List Node)(x:Node):(addN f x).length=f.length+1:=mQ
theorem follow_len{f:List Node}{s:aJ}{e:Event}:(followN f s e).length<=f.length+more e:=by
 have c:∀(l:List Made) (f:List Node),(cutsN f s l).length=f.length+l.length:=by
  intro l
  induction l<;>grind [addN_len,QM,cutsN]
 have r:∀(n:Int) (l:List Rest) (f:List Node),(restsN f s n l).length=f.length+l.length:=by
  intro n l
  induction l<;>grind [addN_len,QM,restsN]
 grind [Tj,addN_len,goneAt,followN,growN,more]
theorem loop_4{T:Tab}{σ:St}{x:aA2}{Q:Exit->St->Prop}{A B C D:Type}(st:A->B->C->D->St)(inv:A->B->C->D->Prop)(m:A->B->C->D->Nat)(j:A)(g:B)(i:C)(d0:D)(l:Le T σ (st j g i d0))(n:inv j g i d0)(h:∀a b c d,inv a b c d->x (st a b c d) λe f=>match e with
 | .normal=>∃p':A×B×C×D,Le T f (st p'.1 p'.2.1 p'.2.2.1 p'.2.2.2)/\inv p'.1 p'.2.1 p'.2.2.1 p'.2.2.2/\m p'.1 p'.2.1 p'.2.2.1 p'.2.2.2<m a b c d
 |e=>Q e f):bI0 T x σ Q:=
 lD (A:=A×B×C×D) (λp=>st p.1 p.2.1 p.2.2.1 p.2.2.2) (λp=>inv p.1 p.2.1 p.2.2.1 p.2.2.2) (λp=>m p.1 p.2.1 p.2.2.1 p.2.2.2) (j,g,i,d0) l n (λp k=>h p.1 p.2.1 p.2.2.1 p.2.2.2 k)
def bldSt(l:List Event)(s:aJ)(F:List Node)(D:List Event):St:=mkSt [(0, .sl (l.map aS)),(2, .arr 32 D.length),(3,I 0),(4,I 0),(5, .box 5 0),(10, .sl (l.map aS)),(11,I l.length),(12,I D.length)] [(5,invC s)] [(32,⟨D.length, .own,42,F.map nodeV⟩)]
theorem build_spec(l:List Event)(L:∀e∈l,iY e)(Q:moreL l<=1000000)(N:l.length<=1000000)(E:fitAll inv0 [] l):Sp 12 [.sl (l.map aS)] (.tup [.own 42 ((buildF inv0 [] 0 l).1.map nodeV),I (buildF inv0 [] 0 l).2.1,I (buildF inv0 [] 0 l).2.2]):=by
 refine zsp Tryz.func12 ?_;have t:(l.map aS).length=l.length:=Ae;generalize J:buildF inv0 [] 0 l=q
 repeat' ((conv=>whnf);first|omega|refine zS ?_|refine zm (λx hx=>?_)|refine zT ?_ ?_<;>intro _|fail)
 refine loop_4 (A:=aJ) (B:=List Node) (C:=List Event) (D:=List Event) (λs F D R=>bldSt l s F D) (λs F D R=>l=D++R/\buildF s F D.length R=q/\fitAll s F R/\∃n,Ok s n/\F.length<=n/\n+moreL R<=1000000) (λs F D R=>R.length) inv0 [] [] l ?_ ⟨rfl,J,E,0,ok0,QH _,Aa⟩ (λs F D R hp=>?_)
 ·show Le T _ (mkSt [(0, .sl (l.map aS)),(2, .arr 32 0),(3,I 0),(4,I 0),(5, .box 5 0),(10, .sl (l.map aS)),(11,I l.length),(12,I 0)] [(5,invC inv0)] [(32,⟨0, .own,42,[]⟩)])
  rw[<-t];exact zj
 obtain⟨hp,d,f,n,v,H,w⟩:=hp
 cases R with
 |nil=>
  have b:l.length=D.length:=Ad;have e:q=(F,(D.length:Int),0):=by rw[<-d];rfl
  rw[e]
  repeat' ((conv=>whnf);first|omega|refine zS ?_|refine zm (λx hx=>?_)|refine zT ?_ ?_<;>intro _|fail)
  all_goals conv=>whnf
  refine⟨_,rfl,?_⟩;rw[t,b]
  (repeat' (first|exact trivial|refine And.intro ?_ ?_|with_reducible rfl|exact(λh=>Ah)|exact rfl));done
 |cons e R=>
  have b:=aO hp;have M:moreL (e::R)=more e+moreL R:=E5
  have i:=L e Ad;have g:=kG v (e:=e) Aa i
  obtain⟨z,y⟩:=g;have o:((D++[e]).length:Int)=(D.length:Int)+1:=Ae;have j:buildF s F D.length (e::R)=if(appR s e).2=0 then buildF (appR s e).1 (followN F (appR s e).1 e) ((D.length:Int)+1) R else(F,(D.length:Int),(appR s e).2):=rfl
  have m:fitAll s F (e::R)=((appR s e).2=0->FitN F (appR s e).1 e/\fitAll (appR s e).1 (followN F (appR s e).1 e) R):=rfl;rw[j]at d;rw[m]at f;by_cases c:(appR s e).2=0
  ·rw[Q9 c]at d
   have u:=y c;obtain⟨r,K⟩:=f c;have G:more e=1+e.cuts.length+e.rests.length:=rfl
   have P:=follow_spec F (appR s e).1 e (fol_ok (v.mono Aa) (u.mono (QH _)) Aa i c r) r Aa;have O:= @follow_len F (appR s e).1 e
   rw[c]at z;generalize followN F (appR s e).1 e=k at*;generalize appR s e=a at*
   repeat' ((conv=>whnf);first|omega|refine zS ?_|refine zm (λx hx=>?_)|refine zT ?_ ?_<;>intro _|fail)
   all_goals conv=>whnf
   refine⟨(a.1,k,D++[e],R),?_,⟨Ad,by rw[o];exact d,K,n+more e,u,by show k.length<=_;omega,by show n+more e+moreL R<=1000000;omega⟩,Ae⟩
   show Le T _ (bldSt l a.1 k (D++[e]));unfold bldSt;exact MQ
  ·rw[Q5 c]at d
   subst d;generalize appR s e=a at*;exact MX
end Go.Proofs.Led
