/- Lemmas. -/
import Derived.Test.YtecbpikbjfihmaaGreatDoorB5
set_option linter.all false
set_option autoImplicit true
set_option relaxedAutoImplicit true
set_option maxRecDepth 1000000
set_option maxHeartbeats 8000000
noncomputable section
namespace Go.Proofs.Led
open Go Go.Proofs Go.Ab Tryz
def bZ0:∀ {l} {x},x∈l->Q x->(∀y∈l,Q y->y=x)->l[fst Q l]? =some x
 | [],x,h,_,_=>Ah
 |y::l,x,h,a,c=>by
  by_cases d:Q y;simp_all [Ut,Q9,dH,fst]
  have e:fst Q (y::l)=fst Q l+1:=by
   simp_all [Ut,QU,dW,fst]
  rw[e,SE];rcases Rl.1 h with h|h;rw[h]at a;exact absurd a d;exact bZ0 h a (λz hz=>c z IA)
def bB9{c:Type}{key:c->Int}:∀ {l:List c},(l.map key).Pairwise (·<·)->∀ {x y},x∈l->y∈l->key x=key y->x=y
 | [],_,x,y,h,_,_=>Ah
 |z::l,d,x,y,f,g,e=>by
  rw[Rt,S9]at d;rcases Rl.1 f with a|a<;>rcases Rl.1 g with b|b
  rw[a,b];grind [RD];grind [RD];exact bB9 d.2 a b e
def eF7(h:Ok s n)(a:x∈s.stocks):s.stocks[fst (λy=>sid y=sid x) s.stocks]? =some x:=
 bZ0 a rfl (λy b e=>bB9 h.ss b a e)
def dK2(h:Ok s n)(a:x∈s.pieces):s.pieces[fst (λy=>y.id=x.id) s.pieces]? =some x:=
 bZ0 a rfl (λy b e=>bB9 h.sp b a e)
def cC8 n x:Sp 24 [aZ x, .fp [I n]] (DB (x.id=n)):=by
 refine zsp func24 ?_;exact P5
def bZ9 n x:Sp 26 [aQ x, .fp [I n]] (DB (sid x=n)):=by
 refine zsp func26 ?_;have a:=aE2 x;exact P5
def fB2(hg:∀m,Sp g (aZ m:: [.fp c]) (DB (Q m))) l(b:l.length<=1000000):fnVC T Tryz.prog Tryz.f23 [.sl (l.map aZ), .fn g [.fp c]] (I (fstI Q l)):=by
 have a:(l.map aZ).length=l.length:=Ad;repeat' (first|refine zS ?_|fail)
 refine aU (A:=List Piece) (B:=List Piece) (λD R=>mkSt [(0, .sl (l.map aZ)),(1, .fn g [.fp c]),(7,I l.length),(8,I D.length)] [] [])
  (λD R=>l=D++R/\∀m∈D,¬Q m) (λD R=>R.length) [] l ?_ ⟨rfl,Ad⟩ (λD R hp=>?_)
 exact zj;exact IJ
def dY3(a:∀m,Sp g (aZ m:: [.fp c]) (DB (Q m))) l(b:l.length<=1000000):Sp 23 [.sl (l.map aZ), .fn g [.fp c]] (I (fstI Q l)):=zsp func23 (fB2 a l b)
def fA9(hg:∀m,Sp g (aQ m:: [.fp c]) (DB (Q m))) l(b:l.length<=1000000):fnVC T Tryz.prog Tryz.f25 [.sl (l.map aQ), .fn g [.fp c]] (I (fstI Q l)):=by
 have a:(l.map aQ).length=l.length:=Ad;repeat' (first|refine zS ?_|fail)
 refine aU (A:=List aN) (B:=List aN) (λD R=>mkSt [(0, .sl (l.map aQ)),(1, .fn g [.fp c]),(7,I l.length),(8,I D.length)] [] [])
  (λD R=>l=D++R/\∀m∈D,¬Q m) (λD R=>R.length) [] l ?_ ⟨rfl,Ad⟩ (λD R hp=>?_)
 exact zj;exact IJ
def eH2(a:∀m,Sp g (aQ m:: [.fp c]) (DB (Q m))) l(b:l.length<=1000000):Sp 25 [.sl (l.map aQ), .fn g [.fp c]] (I (fstI Q l)):=zsp func25 (fA9 a l b)
def piece0:Piece:=⟨0,0,aI,aI,aI,0,false,0,aI⟩
def bF5(s:aJ)(n:Int):aN:=(s.stocks[fst (λx=>sid x=n) s.stocks]?).getD wS
def bF0(s:aJ)(n:Int):Piece:=(s.pieces[fst (λx=>x.id=n) s.pieces]?).getD piece0
def eD1:fst Q l<l.length↔∃m∈l,Q m:=by
 by_cases h:fst Q l<l.length;refine⟨λ_=>?_,λ_=>h⟩;apply U5;intro d;exact iO.2 (λm a b=>d ⟨m,a,b⟩) h;refine⟨λq=>absurd q h,λ⟨m,a,b⟩=>absurd b (iO.1 h m a)⟩
def bH9 s n(a:s.stocks.length<=1000000):Sp 10 [invV s,I n] (.tup [aQ (bF5 s n),DB (∃m∈s.stocks,sid m=n)]):=by
 refine zsp func10 ?_;have h1:=eH2 (c:=[I n]) (λx=>bZ9 n x) s.stocks a;have hs:bF5 s n=(s.stocks[fst (λx=>sid x=n) s.stocks]?).getD wS:=rfl;have hlt:=eD1 (Q:=λx=>sid x=n) (l:=s.stocks);have hi:fstI (λx:aN=>sid x=n) s.stocks=if fst (λx=>sid x=n) s.stocks<s.stocks.length then(fst (λx=>sid x=n) s.stocks:Int)else-1:=rfl
 generalize fstI (λx=>sid x=n) s.stocks=z at*;generalize fst (λx=>sid x=n) s.stocks=k at*;generalize (∃m∈s.stocks,sid m=n)=P at*;have d:(s.stocks.map aQ).length=s.stocks.length:=Ad;conv=>whnf
 refine dJ4 Unit (λ_=>mkSt [(2, .box 2 0),(3, .fp [I n]),(4, .box 4 0),(5,B false)] [(2,invC s),(4,dA5)] []) (λ_=>True) ?_ ?_;exact Jo;intro _ _;by_cases c:k<s.stocks.length;rw[QU c]at hi;have hP:=hlt.1 c;have hg:s.stocks[k]? =some (bF5 s n):=GR;exact NR;rw[Q9 c]at hi;have hP:=λh=>c (hlt.2 h);have hg:bF5 s n=wS:=FO;exact NQ
def bG3 s n(a:s.pieces.length<=1000000):Sp 9 [invV s,I n] (.tup [aZ (bF0 s n),DB (∃m∈s.pieces,m.id=n)]):=by
 refine zsp func9 ?_;have h1:=dY3 (c:=[I n]) (λx=>cC8 n x) s.pieces a;have hs:bF0 s n=(s.pieces[fst (λx=>x.id=n) s.pieces]?).getD piece0:=rfl;have hlt:=eD1 (Q:=λx=>x.id=n) (l:=s.pieces);have hi:fstI (λx:Piece=>x.id=n) s.pieces=if fst (λx=>x.id=n) s.pieces<s.pieces.length then(fst (λx=>x.id=n) s.pieces:Int)else-1:=rfl
 generalize fstI (λx=>x.id=n) s.pieces=z at*;generalize fst (λx=>x.id=n) s.pieces=k at*;generalize (∃m∈s.pieces,m.id=n)=P at*;have d:(s.pieces.map aZ).length=s.pieces.length:=Ad;conv=>whnf
 refine dJ4 Unit (λ_=>mkSt [(2, .box 2 0),(3, .fp [I n]),(4, .box 4 0),(5,B false)] [(2,invC s),(4,dZ8 piece0)] []) (λ_=>True) ?_ ?_;exact Jo;intro _ _;by_cases c:k<s.pieces.length;rw[QU c]at hi;have hP:=hlt.1 c;have hg:s.pieces[k]? =some (bF0 s n):=GR;exact NR;rw[Q9 c]at hi;have hP:=λh=>c (hlt.2 h);have hg:bF0 s n=piece0:=FO;exact NQ
structure Node where
 id:Int
 kind:Int
 parent:Int
 grade:ByteArray
 heat:ByteArray
 part:ByteArray
 size:Int
 gone:Bool
 scrap:Int
def nodeC(x:Node):List V:=[I x.id,I x.kind,I x.parent,S x.grade,S x.heat,S x.part,I x.size,B x.gone,I x.scrap]
def nodeV(x:Node):V:= .agg (nodeC x)
def nodeOf(x:aN)(p:Int):Node:=if x.isBar then⟨x.bar.id,2,p,x.bar.grade,x.bar.heat,aI,gG x,false,0⟩else⟨x.sheet.id,1,p,x.sheet.grade,x.sheet.heat,aI,gG x,false,0⟩
def pieceN(p:Piece)(q:Int):Node:=⟨p.id,3,q,p.grade,p.heat,p.part,p.size,false,0⟩
def addN(f:List Node)(n:Node):List Node:=putAt f (bs Node.id f n.id) n
def goneN(x:Node)(sc:Int):Node:={x with gone:=true,scrap:=sc}
def cutsN(f:List Node)(s:aJ)(l:List Made):List Node:=l.foldl (λf c=>addN f (pieceN (bF0 s c.id) (bF0 s c.id).parent)) f
def restsN(f:List Node)(s:aJ)(n:Int)(l:List Rest):List Node:=l.foldl (λf r=>addN f (nodeOf (bF5 s r.id) n)) f
def growN(f:List Node)(s:aJ)(e:Event):List Node:=restsN (cutsN f s e.cuts) s e.id e.rests
def goneAt(f:List Node)(i:Nat)(e:Event):List Node:=match f[i]? with
 |some x=>f.set i (goneN x (if e.kind=8 then x.size else e.scrap))
 |none=>f
def followN(f:List Node)(s:aJ)(e:Event):List Node:=
 if e.kind=1 then addN f (nodeOf ⟨false,e.sheet,bar0,aI⟩ 0)
 else if e.kind=2 then addN f (nodeOf ⟨true,dN,e.bar,aI⟩ 0)
 else if e.kind=8\/e.kind=5 then growN (goneAt f (bs Node.id f e.id) e) s e else growN f s e
theorem nodeOf_id x p:(nodeOf x p).id=sid x:=by
 unfold nodeOf sid;split<;>rfl
def nodeOf_gone x p:(nodeOf x p).gone=false/\(nodeOf x p).scrap=0/\(nodeOf x p).parent=p/\(nodeOf x p).part=aI/\(nodeOf x p).size=gG x:=by
 grind [nodeOf]
theorem nodeOf_kind x p:(nodeOf x p).kind=if x.isBar then 2 else 1:=by
 unfold nodeOf;split<;>rfl
def nodeOf_grade x p:(nodeOf x p).grade=(if x.isBar then x.bar.grade else x.sheet.grade)/\(nodeOf x p).heat=if x.isBar then x.bar.heat else x.sheet.heat:=by
 unfold nodeOf;split<;>exact⟨rfl,rfl⟩
def newI(s:aJ)(e:Event):List Int:=if e.kind=1 then [e.sheet.id]else if e.kind=2 then [e.bar.id]else e.cuts.map (λc=>(bF0 s c.id).id)++e.rests.map λr=>sid (bF5 s r.id)
structure FitN(f:List Node)(s:aJ)(e:Event):Prop where
 so:(f.map Node.id).Pairwise (·<·)
 ln:f.length<=1000000
 ex:(e.kind=8\/e.kind=5)->∃x∈f,x.id=e.id
 nw:∀i∈newI s e,∀x∈f,x.id≠i
 df:(newI s e).Pairwise (·≠·)
def fitAll(s:aJ)(f:List Node):List Event->Prop
 | [] =>True
 |e::l=>(appR s e).2=0->FitN f (appR s e).1 e/\fitAll (appR s e).1 (followN f (appR s e).1 e) l
def buildF(s:aJ)(f:List Node)(i:Int):List Event->List Node×Int×Int
 | [] =>(f,i,0)
 |e::l=>if(appR s e).2=0 then buildF (appR s e).1 (followN f (appR s e).1 e) (i+1) l else(f,i,(appR s e).2)
abbrev SortN(f:List Node):Prop:=(f.map Node.id).Pairwise (·<·)
def getN(f:List Node)(n:Int):Option Node:=f.find? λx=>decide (x.id=n)
def getN_mem(h:getN f n=some x):x∈f/\x.id=n:=⟨List.mem_of_find?_eq_some h,by have:=List.find?_some h;simpa using this⟩
def getN_some(d:SortN f)(a:x∈f):getN f x.id=some x:=by
 cases h:getN f x.id with
 |none=>exact absurd (List.find?_eq_none.1 h x a) Ad
 |some y=>
  let⟨b,c⟩:=getN_mem h;rw[bB9 d b a c]
def getN_none:getN f n=none↔∀x∈f,x.id≠n:=by
 unfold getN;simp
def getN_bs(c:SortN f)(h:getN f n=some x):f[bs Node.id f n]? =some x:=by
 let⟨a,b⟩:=getN_mem h;let⟨y,d,e⟩:=aB8 c ⟨x,a,b⟩;rw[d,bB9 c (fC d) a (by rw[e,b])]
def getN_ex:(∃x∈f,x.id=n)↔∃x,getN f n=some x:=by
 constructor;rintro⟨x,a,e⟩;cases h:getN f n with
 |none=>exact absurd e (getN_none.1 h x a)
 |some y=>exact⟨y,rfl⟩
 rintro⟨x,a⟩;exact⟨x,getN_mem a⟩
def climbR(f:List Node):Nat->Node->Bool
 |0,x=>decide (x.parent=0)
 |k+1,x=>if x.parent=0 then true else match getN f x.parent with
  |some y=>climbR f k y
  |none=>false
def chainR(f:List Node):Nat->Node->List Node
 |0,x=> [x]
 |k+1,x=>if x.parent=0 then [x]else match getN f x.parent with
  |some y=>x::chainR f k y
  |none=> [x]
def ownP(x:Node):Prop:=1<=x.id/\1<=x.kind/\x.kind<=3/\1<=x.size/\0<=x.scrap/\x.scrap<=x.size/\(x.gone=false->x.scrap=0)/\
 (x.kind=3->iM x.part/\x.parent≠0/\x.gone=false)/\(x.kind≠3->x.part=aI)
def linkN(x p:Node):Prop:=p.gone=true/\p.grade=x.grade/\p.heat=x.heat/\(x.kind=3\/x.kind=p.kind)
def ksum(f:List Node)(n:Int):Int:=(f.map λx=>if x.parent=n then x.size else 0).sum
def parN(f:List Node)(x:Node):Prop:=x.parent≠0->∃p,getN f x.parent=some p/\linkN x p
structure RightF(f:List Node):Prop where
 own:∀x∈f,ownP x
 so:SortN f
 par:∀x∈f,parN f x
 up:∀x∈f,climbR f f.length x=true
 sum:∀g∈f,g.gone=true->ksum f g.id=g.size-g.scrap
theorem chain_mono:∀ {k} {x},climbR f k x=true->chainR f (k+1) x=chainR f k x
 |0,x,h=>by
  simp_all [QU,QV,climbR,chainR]
 |k+1,x,h=>by
  unfold climbR at h;rw[chainR,chainR];by_cases c:x.parent=0;rw[QU c,QU c];rw[Q9 c]at h;cases a:getN f x.parent<;>simp_all [chain_mono]
theorem chain_len:∀ {k} {x},1<=(chainR f k x).length/\(chainR f k x).length<=k+1
 |0,x=>⟨Rf _,Rf _⟩
 |k+1,x=>by
  unfold chainR;split;exact⟨Rf _,Ad⟩;split;simp_all [chain_len,Ro];exact⟨Rf _,Ad⟩
def chN(f:List Node)(x:Node):List Node:=chainR f f.length x
def ch_root(a:x.parent=0):chN f x=[x] :=by
 unfold chN;cases f.length<;>simp_all [QU,chainR]
def ch_step(h:∀x∈f,climbR f f.length x=true)(a:x∈f)(b:x.parent≠0)(g:getN f x.parent=some y):chN f x=x::chN f y:=by
 have c:=h x a;have e:=List.length_pos_of_mem a;obtain⟨k,d⟩:∃k,f.length=k+1:=⟨f.length-1,Aa⟩;simp_all [Q9,chain_mono,chN,climbR,chainR]
def ch_self:∃l,chN f x=x::l:=Ku
def ch_le:(chN f x).length<=f.length+1:=chain_len.2
section
variable{f:List Node}(h:RightF f)
include h
theorem par_get(c:x∈f)(b:x.parent≠0):∃y,getN f x.parent=some y/\y∈f/\y.id=x.parent/\linkN x y/\chN f x=x::chN f y:=by
 let⟨y,a,g⟩:=h.par x c b;let⟨d,e⟩:=getN_mem a;exact⟨y,a,d,e,g,ch_step h.up c b a⟩
theorem ch_in:∀(n:Nat) {x y:Node},x∈f->(chN f x).length<=n->y∈chN f x->y∈f/\(chN f y).length<=(chN f x).length
 |0,x,y,b,c,a=>by
  simp_all
 |n+1,x,y,b,c,a=>by
  by_cases d:x.parent=0;rw[ch_root d]at a;rw[Ri.1 a];exact⟨b,Rf _⟩;obtain⟨p,j,g,k,l,e⟩:=par_get h b d;rw[e]at a c⊢;rcases Rl.1 a with rfl|a;exact⟨b,by rw[e];exact Rf _⟩;simp only[Ro]at c⊢;obtain⟨i,m⟩:=ch_in n g Aa a;exact⟨i,Aa⟩
theorem ch_child(b:x∈f)(a:p∈f)(e:x.parent=p.id):chN f x=x::chN f p:=by
 have g:=(h.own p a).1;let⟨y,i,c,j,k,d⟩:=par_get h b Aa;rw[d,bB9 h.so c a Aa]
end
def underN(f:List Node)(x:Node)(n:Int):Prop:=∃y∈chN f x,y.id=n
open Classical in
def ind(p:Prop):Int:=if p then 1 else 0
theorem ind_t(h:p):ind p=1:=QU h
theorem ind_f(h:¬p):ind p=0:=Q9 h
def kidsN(f:List Node)(n:Int):List Node:=f.filter λx=>decide (x.parent=n)
def mem_kids:x∈kidsN f n↔x∈f/\x.parent=n:=by unfold kidsN;simp
theorem sum_zero{a:Type}{g:a->Int}:∀ {l:List a},(∀x∈l,g x=0)->(l.map g).sum=0
 | [],_=>rfl
 |x::l,h=>by rw[Rt,Sv,h x (by simp),sum_zero (λy b=>h y (by simp[b]))];rfl
theorem sum_add{a:Type}{g k:a->Int}:∀ {l:List a},(l.map λx=>g x+k x).sum=(l.map g).sum+(l.map k).sum
 | [] =>rfl
 |x::l=>by rw[Rt,Sv,sum_add (l:=l),Rt,Sv,Rt,Sv];omega
def sum_congr{a:Type}{g k:a->Int}{l:List a}(h:∀x∈l,g x=k x):(l.map g).sum=(l.map k).sum:=by rw[Ti h]
def sum_swap{a β:Type}(g:a->β->Int)(m:List β):∀(l:List a),(l.map λx=>(m.map λy=>g x y).sum).sum=(m.map λy=>(l.map λx=>g x y).sum).sum
 | [] =>by rw[SY,List.sum_nil];exact(sum_zero (λy _=>rfl)).symm
 |x::l=>by
  rw[Rt,Sv,sum_swap g m l,<-sum_add];simp_all
def sum_one{c:Type}{key:c->Int}:∀ {l:List c},(l.map key).Pairwise (·<·)->∀ {x},x∈l->(l.map λy=>ind (key x=key y)).sum=1
 | [],_,x,h=>Ah
 |y::l,b,x,a=>by
  rw[Rt,S9]at b;rw[Rt,Sv];rcases Rl.1 a with rfl|a;grind [ind_t,sum_zero,RD,ind_f];have:=b.1 (key x) (RD a);rw[ind_f Aa,sum_one b.2 a];rfl
def kids_sorted(h:SortN f) n:SortN (kidsN f n):=h.sublist ((List.filter_sublist).map Node.id)
def under_split(h:RightF f)(q:n∈f):∀ k {x},x∈f->(chN f x).length<=k->ind (underN f x n.id)=ind (x.id=n.id)+((kidsN f n.id).map λc=>ind (underN f x c.id)).sum
 |0,x,a,u=>by
  let⟨l,e⟩:=ch_self (f:=f) (x:=x);simp_all
 |k+1,x,a,u=>by
  have D:=(h.own n q).1;by_cases j:x.id=n.id;have e:=bB9 h.so a q j;subst e;rw[ind_t rfl,ind_t (p:=underN f x x.id),sum_zero];rfl;intro c d;let⟨b,m⟩:=mem_kids.1 d;refine ind_f ?_;rintro⟨y,i,e⟩;let⟨s,z⟩:=ch_in h _ a (Rf _) i;have:y=c:=bB9 h.so s b e;grind [ch_child,Ro];exact MO;rw[ind_f j,U7];by_cases t:x.parent=0;have C:=ch_root (f:=f) t;rw[ind_f,sum_zero];intro c d;let⟨b,m⟩:=mem_kids.1 d;refine ind_f ?_;rintro⟨y,i,e⟩;rw[C]at i;rw[Ri.1 i]at e;have:x=c:=bB9 h.so a b e;subst this;omega;rintro⟨y,i,e⟩;simp_all;let⟨p,F,v,G,H,w⟩:=par_get h a t;have o:(chN f p).length<=k:=by rw[w,Ro]at u;omega
  have E:=under_split h q k v o
  have A:underN f x n.id↔underN f p n.id:=by
   unfold underN;simp_all
  have B:∀c∈kidsN f n.id,ind (underN f x c.id)=ind (x.id=c.id)+ind (underN f p c.id):=by
   intro c d;let⟨b,m⟩:=mem_kids.1 d;by_cases r:x.id=c.id;have:x=c:=bB9 h.so a b r;subst this;rw[ind_t rfl,ind_t,ind_f];rfl;rintro⟨y,i,e⟩;let⟨s,z⟩:=ch_in h _ v (Rf _) i;have:y=x:=bB9 h.so s a e;subst this;rw[w,Ro]at z;omega;exact MO;simp_all [ind_f,U7,Rl,RZ,underN]
  rw[show underN f x n.id=underN f p n.id from propext A,E,sum_congr B,sum_add];congr 1;by_cases g:p.id=n.id;rw[ind_t g,sum_one (key:=Node.id) (kids_sorted h.so n.id) (mem_kids.2 ⟨a,Aa⟩)];rw[ind_f g,sum_zero];intro c d;let⟨b,m⟩:=mem_kids.1 d;refine ind_f λe=>g ?_;have:x=c:=bB9 h.so a b e;subst this;omega
def allU(f:List Node)(g:Node->Int)(n:Int):Int:=(f.map λx=>ind (underN f x n)*g x).sum
def allU_step(h:RightF f) g(a:n∈f):allU f g n.id=g n+((kidsN f n.id).map λc=>allU f g c.id).sum:=by
 unfold allU;rw[<-sum_swap (λx c=>ind (underN f x c.id)*g x) (kidsN f n.id) f]
 have e:∀x∈f,ind (underN f x n.id)*g x=ind (x.id=n.id)*g x+((kidsN f n.id).map λc=>ind (underN f x c.id)*g x).sum:=by
  intro x b;rw[under_split h a _ b (Rf _),Int.add_mul];generalize kidsN f n.id=l;induction l<;>grind
 rw[sum_congr e,sum_add];congr 1
 have d:∀x∈f,ind (x.id=n.id)*g x=ind (n.id=x.id)*g n:=by
  intro x b;by_cases c:x.id=n.id;rw[ind_t c,ind_t c.symm,bB9 h.so b a c];rw[ind_f c,ind_f (λq=>c q.symm)];simp
 rw[sum_congr d];have i:=sum_one (key:=Node.id) h.so a
 have j:∀l:List Node,(l.map λx=>ind (n.id=x.id)*g n).sum=(l.map λx=>ind (n.id=x.id)).sum*g n:=by
  intro l;induction l<;>grind
 rw[j,i,Int.one_mul]
def visitR(f:List Node)(g:Node->Int):Nat->Node->Int
 |0,n=>g n
 |k+1,n=>g n+((kidsN f n.id).map λc=>visitR f g k c).sum
def visit_all(h:RightF f) g:∀ k {n},n∈f->f.length+1<=k+(chN f n).length->visitR f g k n=allU f g n.id
 |0,n,a,i=>by
  rw[allU_step h g a]
  have:kidsN f n.id=[] :=by
   cases d:kidsN f n.id with
   |nil=>rfl
   |cons c l=>
    let⟨b,e⟩:=mem_kids.1 (show c∈kidsN f n.id by rw[d];simp);have:=ch_le (f:=f) (x:=c);grind [ch_child,Ro]
  rw[this];show g n=g n+0;omega
 |k+1,n,a,i=>by
  rw[allU_step h g a];unfold visitR;congr 1;refine sum_congr λc d=>?_;let⟨b,e⟩:=mem_kids.1 d;refine visit_all h g k b ?_;rw[ch_child h b a e,Ro];omega
end Go.Proofs.Led
namespace Go.Proofs.Led
open Go Go.Proofs Go.Ab Go.RowKit Go.Lib Tryz
def elG:ElT 27 40 9 96:=⟨underlying27,QV Ac,Ac,Ac,Ai,Ai⟩
def ovG:OvT 154 40:=λw b vb i g f vc cur a d hb hv c=>by
 rw[UC func154 Ac Ac Ac (e:=Extern.SlicesOverlaps.overlaps #[27,27] #[4]) Ac,
  Lib.run_overlaps_apart w 27 4 40 underlying27 9 sizeOf40 ⟨vb,0,none⟩ ⟨b,i,none⟩ 1 vc g f d 40 40 a.size cur.size FQ FT c Cf Cf]
 rfl
def insG_all:InsShift 106 40 9/\InsEnd 106 40 9/\InsEndG 106 27 40/\InsGrow 106 27 40 9:=by
 have el:=elG;have U:=ovG;have fF:=func106;have nF:=ntmps106;have zE:=sizeOf40;have uS:=RJ underlying27;have V:=SL;have W:=TF;have Y:=RJ SL;have Z:=RJ TF;have mixed:=mixed;refine⟨?_,?_,?_,?_⟩
 ·intro b n c i vb vc cur e w hi hroom o hvb hb hv hbs hvs s h2
  have E:=λT S M=>U w b vb T S M vc cur e hvb hb hv Aa;obtain⟨X1,d,q,hcp2⟩:=el.shift (b:=b) (vb:=vb) (vc:=vc) hi hroom hbs hvs s h2;rw[<-d];clear d;have H:IntKind.i64.wrap ((i:Int)+1)=(i:Int)+1:=Az;have I:IntKind.i64.wrap ((n:Int)+1)=(n:Int)+1:=Az;have J:¬((i:Int)=(n:Int)):=Aa;have v:(0:Int)<=(i:Int)+1:=Aa;have G:((i:Int)+1).toNat=i+1:=Aa;have L:((n:Int)+1).toNat=n+1:=Aa;have C:i<=n:=Aa;have x:¬(c=i+1):=Aa;have y:(i:Int)<=(n:Int)+1:=Aa;have z:¬(c=i):=Aa;have A:¬((c:Int)< (n:Int)+1):=Aa
  go_enter fF,nF
  go_wp2_with (simp only[E])
  have l:=q w.drew _ _ (n-i) (n+1-i) 3 (c- (i+1)) (c-i) hb rfl rfl Dh;try simp only[Ux]at l
  go_region_law_o (refine step_copy_runI rfl _ _ _ _ rfl _ _ A7 A7 l ?_)
  exact Nr
 intro b n c vb vc cur e w hroom o hb hv hbs hvs h2;exact Nz
 ·intro k n c j vb vc X w r hroom m hn hA
  go_enter fF,nF
  cases k with
  |none=>exact Jf
  |some a=>exact Jg
 intro b n c j i vb vc cur e R w hi r hroom m B hle hb hv hbs u hvs s h2 F;have hbw:b<w.heap.size:=(Ry.1 hb).1;have hvw:vb<w.heap.size:=(Ry.1 hv).1;obtain⟨X1,d,f,g⟩:=el.grow (b:=b) (vb:=vb) (vc:=vc) (N:=w.heap.size) hi r B hbs u hvs s h2;obtain⟨t,hO⟩:=el.nw w R;have hA:=f _ _ (n+1-i) 3 (j-i) t FC rfl Aa;have K:=g ((World.setRow _ w.heap.size X1).drew) _ _ (n-i) (n-i) 3 (j- (i+1)) (c-i) (TN _ w.heap.size R X1 _ _ t) ((TA _ w.heap.size b X1 Aa).trans FU) rfl rfl (Nat.min_self _);rw[<-d];clear d f g t hO;have H:IntKind.i64.wrap ((i:Int)+1)=(i:Int)+1:=Az;have I:IntKind.i64.wrap ((n:Int)+1)=(n:Int)+1:=Az;have Q:IntKind.i64.wrap ((n:Int)+1- (i:Int))=(n:Int)+1- (i:Int):=Az;have J:¬((i:Int)=(n:Int)):=Aa;have v:(0:Int)<=(i:Int)+1:=Aa;have G:((i:Int)+1).toNat=i+1:=Aa;have C:i<=n:=Aa;have x:¬(j=i+1):=Aa;have y:(i:Int)<=(n:Int)+1:=Aa;have z:¬(c=i):=Aa;have A:(c:Int)< (n:Int)+1:=Aa;have O:¬(j=i):=Aa;have P:(i:Int)<=(c:Int):=Aa;have D:j<=9223372036854775807:=E8;try simp only[Ux]at hA K
 go_enter fF,nF
 go_wp2_with (first|simp only[hA,RG] |(at_builtin;refine Lib.wpList_append_run _ rfl _ _ _ _ rfl _ _ rfl rfl _ _ (F _) ?_))
 go_region_law_o (refine step_copy_runI rfl _ _ _ _ rfl _ _ A7 A7 K ?_)
 go_wp2
 go_ret
 first|exact⟨rfl,rfl⟩|exact⟨rfl,Bh⟩
def insG_spec l x(i:Nat)(hi:i<=l.length)(a:l.length<=1000000000):Sp 106 [.own 40 l,I i, .own 40 [x]] (.own 40 (l.take i++x::l.drop i)):=
 ins_gen elG Ac insG_all.1 insG_all.2.1 insG_all.2.2.1 insG_all.2.2.2 l x i hi a
end Go.Proofs.Led
namespace Go.Proofs.Led
open Go Go.Proofs Go.Ab Tryz
def ndB_vc{g:FuncId}{t:Int}(v:∀m:Node,Sp g [nodeV m,I t] (I (cmpI (Node.id m) t)))(l:List Node)(J:l.length<=1000000)(u:(l.map Node.id).Pairwise (·<·)):fnVC T Tryz.prog Tryz.f74 [.sl (l.map nodeV),I t, .fn g []] (.tup [I (bs Node.id l t),DB (∃m∈l,Node.id m=t)]):=by
 have F:(l.map nodeV).length=l.length:=Ad;repeat' ((conv=>whnf);first|refine zS ?_|refine zm (λx hx=>?_)|refine zT ?_ ?_<;>intro _|fail)
 refine aU (A:=Nat) (B:=Nat) (λi j=>mkSt [(0, .sl (l.map nodeV)),(1,I t),(2, .fn g []),(8,I l.length),(9,I i),(10,I j)] [] []) (λi j=>i<=j/\j<=l.length/\(∀k m,k<i->l[k]? =some m->Node.id m<t)/\∀k m,j<=k->l[k]? =some m->t<=Node.id m) (λi j=>j-i) 0 l.length ?_ ⟨Aa,Aa,λk m hk=>absurd hk Aa,λk m hk hm=>CB⟩ (λi j G=>?_);exact zj;obtain⟨E,H,f,o⟩:=G;have c:i<=l.length:=Aa;by_cases w:i<j
 ·have D:(i+j)/2<l.length:=by omega
  have hm2:=QX D;generalize l[(i+j)/2] =m at hm2;have C:=v m;have z:(i+j)/2<j:=Aa;repeat' ((conv=>whnf);first|omega|refine fK (k:= .u64) (n:=(i:Int)+(j:Int)) (m:=(i:Int)+(j:Int)) (cD4 Aa) ?_|refine fK (k:= .i64) (n:=shrI .u64 ((i:Int)+(j:Int)) 1) (m:=(((i+j)/2:Nat):Int)) (bF1 Aa) ?_|refine zS ?_|refine zm (λx hx=>?_)|refine zT ?_ ?_<;>intro _|fail)
  all_goals conv=>whnf
  have hc:=cK6.1 Ag;refine⟨((i+j)/2+1,j),?_,⟨Aa,Aa,λk y hk hy=>?_,o⟩,Aa⟩;exact zj;rcases Sj k ((i+j)/2)with h|h;exact Int.lt_trans (sorted_at u hy hm2 h) hc;exact Jm;have hc:=aU8.1 Ag;refine⟨(i,(i+j)/2),?_,⟨Aa,Aa,f,λk y hk hy=>?_⟩,Aa⟩;exact zj;rcases Sj ((i+j)/2) k with h|h;exact Int.le_of_lt (Int.lt_of_le_of_lt hc (sorted_at u hm2 hy h));exact Jm
 have e:j=i:=by omega
 subst e;have r:=dC0 c f (λm hm=>o j m (Rf _) hm);have a:=eC8 u f (λm hm=>o j m (Rf _) hm);rw[r];generalize (∃m∈l,Node.id m=t)=P at*;by_cases s:j<l.length;have hm2:=QX s;generalize l[j] =m at hm2;have C:=v m;have q:P↔Node.id m=t:=a.1 m hm2;have d:DB P=V.lit (.bool (eqB (cmpI (Node.id m) t) 0)):=RI (λb=>V.lit (.bool b)) (sK (bP6.trans q.symm)).symm;rw[d];exact Nj;have q:¬P:=a.2 (TG Aa);have d:DB P=V.lit (.bool false):=RI (λb=>V.lit (.bool b)) (dW.2 q);rw[d];exact Nj
def ndB_spec(a:∀m:Node,Sp g [nodeV m,I t] (I (cmpI (Node.id m) t))) l(b:l.length<=1000000)(c:(l.map Node.id).Pairwise (·<·)):Sp 74 [.sl (l.map nodeV),I t, .fn g []] (.tup [I (bs Node.id l t),DB (∃m∈l,Node.id m=t)]):=zsp func74 (ndB_vc a l b c)
def findNF_spec x t:Sp 75 [nodeV x,I t] (I (cmpI x.id t)):=by
 refine zsp func75 ?_;have a:=aB9 x.id t;exact OZ
def findN_spec f n(a:f.length<=1000000)(b:SortN f):Sp 38 [.sl (f.map nodeV),I n] (.tup [I (bs Node.id f n),DB (∃m∈f,m.id=n)]):=by
 refine zsp func38 ?_;have c:=ndB_spec (g:=75) (t:=n) (λm=>findNF_spec m n) f a b;exact OZ
def putG_spec l(i:Nat) x(hi:i<=l.length)(hl:l.length<=1000000000):Sp 106 [.own 40 (l.map nodeV),I i, .own 40 [nodeV x]] (.own 40 ((putAt l i x).map nodeV)):=by
 have h:=insG_spec (l.map nodeV) (nodeV x) i Ih BG;rw[aR0]at h;exact h
def addG_spec f x(c:f.length<=1000000)(d:SortN f):Sp 63 [.own 40 (f.map nodeV),nodeV x] (.own 40 ((addN f x).map nodeV)):=by
 refine zsp func63 ?_;have a:=findN_spec f x.id c d;have b:=putG_spec f (bs Node.id f x.id) x (bQ8 _ _ _) Aa;unfold addN;generalize (∃m∈f,m.id=x.id)=P at*;repeat' (first|(refine aS5 (a) true ?_ rfl ?_;focus ((repeat' (first|exact trivial|refine And.intro ?_ ?_|with_reducible rfl|exact(λh=>Ah)|exact rfl));done))|refine zh (xX b) [] ?_|refine zS ?_|refine zm (λx e=>?_)|refine zT ?_ ?_<;>intro _|fail)
 all_goals exact zE
def stockNode_spec x p(a:eY x):Sp 64 [aQ x,I p] (nodeV (nodeOf x p)):=by
 refine zsp func64 ?_;have d:=vF x a;unfold nodeOf;generalize gG x=z at*;let⟨b,s,c,q⟩:=x;cases b;all_goals simp[Bool.false_eq_true,Uu,Uy]
 ·repeat' ((conv=>whnf);first|(exfalso;contradiction)|refine eZ1 Ak ?_|refine zS ?_|refine zm (λx a=>?_)|refine zT ?_ ?_<;>intro _|fail)
  all_goals exact zE
 repeat' ((conv=>whnf);first|(exfalso;contradiction)|refine cC0 [(2,2),(5,5),(21,2),(22,2),(24,2),(25,2),(27,2),(28,2),(30,5),(31,5),(32,5),(33,5)] Af Ak ?_|refine eZ1 Ak ?_|refine zS ?_|refine zm (λx a=>?_)|refine zT ?_ ?_<;>intro _|fail)
 all_goals exact zE
def le_refl{T}:Le T σ σ:=by
 unfold Le;exact λΦ a w G inv=>⟨G,inv⟩
def loop_0{T}(h:x σ λe a=>match e with
 | .normal=>∃p':Unit,Le T a σ/\True/\0<0
 |e=>Q e a):bI0 T x σ Q:=lD (A:=Unit) (λ_=>σ) (λ_=>True) (λ_=>0) () le_refl trivial (λ_ _=>h)
def cutsN_snoc f s D c:cutsN f s (D++[c])=addN (cutsN f s D) (pieceN (bF0 s c.id) (bF0 s c.id).parent):=by unfold cutsN;simp
def restsN_snoc f s n D r:restsN f s n (D++[r])=addN (restsN f s n D) (nodeOf (bF5 s r.id) n):=by unfold restsN;simp
theorem map_set2(f:List Node)(k:Nat) x y:((f.map nodeV).set ((k:Int)).toNat (nodeV y)).set ((k:Int)).toNat (nodeV x)=(f.set k x).map nodeV:=by
 simp_all
def map_set3(f:List Node)(k:Nat) x y z:(((f.map nodeV).set ((k:Int)).toNat (nodeV z)).set ((k:Int)).toNat (nodeV y)).set ((k:Int)).toNat (nodeV x)=(f.set k x).map nodeV:=by
 simp_all
def folA(s:aJ)(e:Event)(F:List Node)(D:List Made):St:=mkSt [(0, .arr 0 D.length),(4, .box 4 0),(5, .box 5 0),(68, .sl (e.cuts.map dK)),(69,I e.cuts.length),(70,I D.length)] [(4,invC s),(5,iJ e)] [(0,⟨D.length, .own,40,F.map nodeV⟩)]
def folB(s:aJ)(e:Event)(F:List Node)(g:Nat)(D:List Rest):St:=mkSt [(0, .arr 0 (g+D.length)),(4, .box 4 0),(5, .box 5 0),(98, .sl (e.rests.map bY)),(99,I e.rests.length),(100,I D.length)] [(4,invC s),(5,iJ e)] [(0,⟨g+D.length, .own,40,F.map nodeV⟩)]
structure FolOk(f:List Node)(s:aJ)(e:Event):Prop where
 so:SortN f
 ln:f.length<=1000000
 ev:iY e
 lp:s.pieces.length<=1000000
 ls:s.stocks.length<=1000000
 sz:∀n,eY (bF5 s n)
 sh:e.kind=1->lK e.sheet
 no:e.kind≠5->e.cuts=[]/\e.rests=[]
def fol1_vc f s e(h:FolOk f s e)(a:e.kind=1):fnVC T Tryz.prog Tryz.f22 [.own 40 (f.map nodeV),invV s,aS e] (.own 40 ((followN f s e).map nodeV)):=by
 have b:=stockNode_spec ⟨false,e.sheet,bar0,aI⟩ 0 ⟨h.sh a,RY _⟩;have c:=addG_spec f (nodeOf ⟨false,e.sheet,bar0,aI⟩ 0) h.ln h.so;unfold followN;rw[QU a];exact Nj
def fol2_vc f s e(h:FolOk f s e)(a:e.kind=2):fnVC T Tryz.prog Tryz.f22 [.own 40 (f.map nodeV),invV s,aS e] (.own 40 ((followN f s e).map nodeV)):=by
 have b:=stockNode_spec ⟨true,dN,e.bar,aI⟩ 0 ⟨xZ,h.ev.br⟩;have c:=addG_spec f (nodeOf ⟨true,dN,e.bar,aI⟩ 0) h.ln h.so;unfold followN;rw[Q9 Aa,QU a];exact Nj
def fol8_vc f s e x(h:FolOk f s e)(g:e.kind=8)(c:f[bs Node.id f e.id]? =some x):fnVC T Tryz.prog Tryz.f22 [.own 40 (f.map nodeV),invV s,aS e] (.own 40 ((followN f s e).map nodeV)):=by
 let⟨a,b⟩:=h.no Aa;have i:=findN_spec f e.id h.ln h.so;have j:=(QW.1 c).1;have hll:(f.map nodeV).length=f.length:=Ad;have l:=h.ln
 have d:followN f s e=f.set (bs Node.id f e.id) (goneN x x.size):=by
  unfold followN growN goneAt;rw[Q9 Aa,Q9 Aa,QU (.inl g),c,a,b];simp[QU g];rfl
 have n:(e.cuts.map dK).length=0:=by rw[a];rfl
 have o:(e.rests.map bY).length=0:=by rw[b];rfl
 rw[d,<-map_set3 f _ (goneN x x.size) {x with gone:=true,scrap:=e.scrap} {x with gone:=true}];clear d h a b;generalize bs Node.id f e.id=k at*;generalize (∃m∈f,m.id=e.id)=P at*;repeat' ((conv=>whnf);first|omega|refine cC0 [(0,77777),(5,5),(45,77777),(47,77777),(49,5),(51,77777),(52,77777),(53,77777),(54,77777)] Af Ak ?_|(refine aS5 (i) true ?_ rfl ?_;focus ((repeat' (first|exact trivial|refine And.intro ?_ ?_|with_reducible rfl|exact(λh=>Ah)|exact rfl));done))|refine dS rfl rfl Fg ?_|refine dS rfl rfl Cb ?_|refine dB8 rfl rfl ?_|refine cV1 rfl Gv ?_|refine loop_0 ?_|refine zS ?_|refine zm (λx c=>?_)|refine zT ?_ ?_<;>intro _|fail)
 all_goals exact zE
def fol5_vc f F0 s e x(h:FolOk f s e)(H:e.kind=5)(hx:f[bs Node.id f e.id]? =some x)(j:F0=f.set (bs Node.id f e.id) (goneN x e.scrap))
 (v:∀D R,e.cuts=D++R->SortN (cutsN F0 s D)/\(cutsN F0 s D).length<=1000000)(F:∀D R,e.rests=D++R->SortN (restsN (cutsN F0 s e.cuts) s e.id D)/\(restsN (cutsN F0 s e.cuts) s e.id D).length<=1000000):
 fnVC T Tryz.prog Tryz.f22 [.own 40 (f.map nodeV),invV s,aS e] (.own 40 ((followN f s e).map nodeV)):=by
 have z:=findN_spec f e.id h.ln h.so;have J:=(QW.1 hx).1;have hll:(f.map nodeV).length=f.length:=Ad;have K:=h.ln;have G:=h.ev.ct;have M:=h.ev.rs;have n:(e.cuts.map dK).length=e.cuts.length:=Ad;have o:(e.rests.map bY).length=e.rests.length:=Ad
 have u:followN f s e=restsN (cutsN F0 s e.cuts) s e.id e.rests:=by
  unfold followN growN goneAt;rw[Q9 Aa,Q9 Aa,QU (.inr H),hx,j];simp[Q9 (show¬e.kind=8 from Aa)]
 have y:F0.map nodeV=((f.map nodeV).set ((bs Node.id f e.id:Nat):Int).toNat (nodeV {x with gone:=true})).set ((bs Node.id f e.id:Nat):Int).toNat (nodeV (goneN x e.scrap)):=by rw[j,map_set2]
 rw[u];have L:=h.lp;have N:=h.ls;have O:=h.sz;clear u h j;generalize bs Node.id f e.id=k at*;generalize (∃m∈f,m.id=e.id)=P at*;repeat' ((conv=>whnf);first|omega|refine cC0 [(0,77777),(5,5),(45,77777),(47,77777),(49,5),(51,77777),(52,77777),(53,77777),(54,77777)] Af Ak ?_|(refine aS5 (z) true ?_ rfl ?_;focus ((repeat' (first|exact trivial|refine And.intro ?_ ?_|with_reducible rfl|exact(λh=>Ah)|exact rfl));done))|refine dS rfl rfl Fg ?_|refine dS rfl rfl Cb ?_|refine dB8 rfl rfl ?_|refine cV1 rfl Gv ?_|refine zS ?_|refine zm (λx hx=>?_)|refine zT ?_ ?_<;>intro _|fail)
 refine aU (A:=List Made) (B:=List Made) (λD R=>folA s e (cutsN F0 s D) D) (λD R=>e.cuts=D++R) (λD R=>R.length) [] e.cuts ?_ rfl (λD R hp2=>?_)
 ·show Le T _ (mkSt [(0, .arr 0 0),(4, .box 4 0),(5, .box 5 0),(68, .sl (e.cuts.map dK)),(69,I e.cuts.length),(70,I 0)] [(4,invC s),(5,iJ e)] [(0,⟨0, .own,40,F0.map nodeV⟩)])
  rw[y,<-n];exact zj
 cases R with
 |cons c R=>
  have g:=aO hp2;have l:((D++[c]).length:Int)=(D.length:Int)+1:=Ad;let⟨r,t⟩:=v D (c::R) hp2;have C:=bG3 s c.id L;have E:=addG_spec (cutsN F0 s D) (pieceN (bF0 s c.id) (bF0 s c.id).parent) t r;have d:=cutsN_snoc F0 s D c;generalize bF0 s c.id=q at*;generalize (∃m∈s.pieces,m.id=c.id)=Q at*;generalize addN (cutsN F0 s D) (pieceN q q.parent)=w at*;generalize cutsN F0 s D=a at*;repeat' ((conv=>whnf);first|omega|refine zS ?_|refine zm (λx hx=>?_)|refine zT ?_ ?_<;>intro _|fail)
  all_goals conv=>whnf
  refine⟨(D++[c],R),?_,GU,Ad⟩;show Le T _ (folA s e (cutsN F0 s (D++[c])) (D++[c]));rw[d];unfold folA;exact Nh
 |nil=>
  have g:e.cuts.length=D.length:=GU;have i:e.cuts=D:=GU;clear v;rw[<-i]at*;clear hp2 i;generalize cutsN F0 s e.cuts=a at*;repeat' ((conv=>whnf);first|omega|refine zS ?_|refine zm (λx hx=>?_)|refine zT ?_ ?_<;>intro _|fail)
  refine aU (A:=List Rest) (B:=List Rest) (λD R=>folB s e (restsN a s e.id D) e.cuts.length D) (λD R=>e.rests=D++R) (λD R=>R.length) [] e.rests ?_ rfl (λD R hp2=>?_);show Le T _ (mkSt [(0, .arr 0 e.cuts.length),(4, .box 4 0),(5, .box 5 0),(98, .sl (e.rests.map bY)),(99,I e.rests.length),(100,I 0)] [(4,invC s),(5,iJ e)] [(0,⟨e.cuts.length, .own,40,a.map nodeV⟩)]);rw[<-o];exact zj;cases R with
  |cons c R=>
   have b:=aO hp2;have l:((D++[c]).length:Int)=(D.length:Int)+1:=Ad;let⟨r,t⟩:=F D (c::R) hp2;have C:=bH9 s c.id N;have E:=stockNode_spec (bF5 s c.id) e.id (O c.id);have U:=addG_spec (restsN a s e.id D) (nodeOf (bF5 s c.id) e.id) t r;have d:=restsN_snoc a s e.id D c;generalize addN (restsN a s e.id D) (nodeOf (bF5 s c.id) e.id)=S at*;generalize nodeOf (bF5 s c.id) e.id=V at*;generalize bF5 s c.id=q at*;generalize (∃m∈s.stocks,sid m=c.id)=Q at*;generalize restsN a s e.id D=w at*;repeat' ((conv=>whnf);first|omega|refine zS ?_|refine zm (λx hx=>?_)|refine zT ?_ ?_<;>intro _|fail)
   all_goals conv=>whnf
   refine⟨(D++[c],R),?_,GU,Ad⟩;show Le T _ (folB s e (restsN a s e.id (D++[c])) e.cuts.length (D++[c]));rw[d];unfold folB;simp[QY,Rj,<-TS];exact zj
  |nil=>
   have b:e.rests.length=D.length:=GU;have i:e.rests=D:=GU;rw[i];exact Nj
def fol0_vc f s e(h:FolOk f s e)(c:e.kind≠1/\e.kind≠2/\e.kind≠5/\e.kind≠8):fnVC T Tryz.prog Tryz.f22 [.own 40 (f.map nodeV),invV s,aS e] (.own 40 ((followN f s e).map nodeV)):=by
 let⟨a,b⟩:=h.no c.2.2.1;have g:(e.cuts.map dK).length=0:=by rw[a];rfl
 have i:(e.rests.map bY).length=0:=by rw[b];rfl
 have d:followN f s e=f:=by
  unfold followN growN;rw[Q9 c.1,Q9 c.2.1,Q9 Aa,a,b];rfl
 rw[d];clear d h a b;repeat' ((conv=>whnf);first|omega|refine loop_0 ?_|refine zS ?_|refine zm (λx j=>?_)|refine zT ?_ ?_<;>intro _|fail)
 all_goals exact zE
def foldN_sorted{xs f:List Node}(h:SortN f)(a:∀x∈xs,∀y∈f,y.id≠x.id)(b:(xs.map Node.id).Pairwise (·≠·)):SortN (xs.foldl addN f)/\(xs.foldl addN f).length=f.length+xs.length/\∀y,y∈xs.foldl addN f↔y∈f\/y∈xs:=by
 have:=bE9 (key:=Node.id) h a b;exact⟨this.1,this.2.2,this.2.1⟩
theorem cutsN_fold:∀ {l} {f},cutsN f s l=(l.map λc=>pieceN (bF0 s c.id) (bF0 s c.id).parent).foldl addN f
 | [],f=>rfl
 |c::l,f=>by unfold cutsN;rw[RV,Rt,RV];exact cutsN_fold
theorem restsN_fold:∀ {l} {f},restsN f s n l=(l.map λr=>nodeOf (bF5 s r.id) n).foldl addN f
 | [],f=>rfl
 |c::l,f=>by unfold restsN;rw[RV,Rt,RV];exact restsN_fold
def fit_folds(h:FitN f s e)(M:e.kind=5)(L:iY e)(I:f[bs Node.id f e.id]? =some x)(N:f.length+e.cuts.length+e.rests.length<=1000000):
 (∀D R,e.cuts=D++R->SortN (cutsN (f.set (bs Node.id f e.id) (goneN x e.scrap)) s D)/\(cutsN (f.set (bs Node.id f e.id) (goneN x e.scrap)) s D).length<=1000000)/\
 ∀D R,e.rests=D++R->SortN (restsN (cutsN (f.set (bs Node.id f e.id) (goneN x e.scrap)) s e.cuts) s e.id D)/\(restsN (cutsN (f.set (bs Node.id f e.id) (goneN x e.scrap)) s e.cuts) s e.id D).length<=1000000:=by
 have G:newI s e=e.cuts.map (λc=>(bF0 s c.id).id)++e.rests.map λr=>sid (bF5 s r.id):=by unfold newI;rw[Q9 (by omega),Q9 (by omega)]
 have g:(f.set (bs Node.id f e.id) (goneN x e.scrap)).map Node.id=f.map Node.id:=bY6 I rfl;have u:SortN (f.set (bs Node.id f e.id) (goneN x e.scrap)):=by show(_:List Int).Pairwise _;rw[g];exact h.so
 have b:∀y∈f.set (bs Node.id f e.id) (goneN x e.scrap),∀i∈newI s e,y.id≠i:=λy a i hi=>by
  have:y.id∈f.map Node.id:=by rw[<-g];exact RD a
  let⟨z,o,l⟩:=Rn.1 this;rw[<-l];exact h.nw i hi z o
 have j:=h.df;rw[G]at j b;have v:(f.set (bs Node.id f e.id) (goneN x e.scrap)).length=f.length:=Ad;generalize f.set (bs Node.id f e.id) (goneN x e.scrap)=F at*
 have k:∀D R,e.cuts=D++R->SortN (cutsN F s D)/\(cutsN F s D).length=F.length+D.length/\∀y∈cutsN F s D,y∈F\/∃c∈D,y.id=(bF0 s c.id).id:=by
  intro D R d;rw[cutsN_fold];have l:(D.map λc=>pieceN (bF0 s c.id) (bF0 s c.id).parent).map Node.id=D.map λc=>(bF0 s c.id).id:=by rw[TI];rfl
  let⟨q,t,A⟩:=foldN_sorted (xs:=D.map λc=>pieceN (bF0 s c.id) (bF0 s c.id).parent) u (λz o y a=>by
   obtain⟨c,m,rfl⟩:=Rn.1 o
   exact b y a _ (Rh.2 (.inl (Rn.2 ⟨c,by rw[d];simp[m],rfl⟩)))) (by
   rw[l];have:=(Si.1 j).1;rw[d,RH]at this;exact(Si.1 this).1)
  refine⟨q,by rw[t,Rw],λy a=>?_⟩;rcases(A y).1 a with a|a;exact .inl a;obtain⟨c,m,rfl⟩:=Rn.1 a;exact .inr ⟨c,m,rfl⟩
 refine⟨λD R d=>?_,λD R d=>?_⟩
 ·let⟨q,t,_⟩:=k D R d
  have:=RI List.length d;rw[QY]at this;exact⟨q,Aa⟩
 ·let⟨B,K,C⟩:=k e.cuts [] (Rq _).symm
  rw[restsN_fold]
  have l:(D.map λr=>nodeOf (bF5 s r.id) e.id).map Node.id=D.map λr=>sid (bF5 s r.id):=by
   rw[TI];exact Ti λr _=>nodeOf_id _ _
  let⟨O,w,J⟩:=Si.1 j
  let⟨q,t,A⟩:=foldN_sorted (xs:=D.map λr=>nodeOf (bF5 s r.id) e.id) B (λz o y a=>by
   obtain⟨r,H,rfl⟩:=Rn.1 o;rw[nodeOf_id];have n:sid (bF5 s r.id)∈e.rests.map λr=>sid (bF5 s r.id):=Rn.2 ⟨r,by rw[d];simp[H],rfl⟩;rcases C y a with a|⟨c,m,E⟩;exact b y a _ (Rh.2 (.inr n));rw[E]
   exact J _ (Rn.2 ⟨c,m,rfl⟩) _ n) (by
   rw[l];rw[d,RH]at w;exact(Si.1 w).1)
  have:=RI List.length d;rw[QY]at this;rw[Rw]at t;exact⟨q,Aa⟩
def follow_spec f s e(h:FolOk f s e)(c:FitN f s e)(l:f.length+e.cuts.length+e.rests.length<=1000000):Sp 22 [.own 40 (f.map nodeV),invV s,aS e] (.own 40 ((followN f s e).map nodeV)):=by
 refine zsp func22 ?_;by_cases j:e.kind=1;exact fol1_vc f s e h j;by_cases k:e.kind=2;exact fol2_vc f s e h k;by_cases i:e.kind=8;let⟨x,g,m⟩:=aB8 c.so (c.ex (.inl i));exact fol8_vc f s e x h i g;by_cases d:e.kind=5;let⟨x,g,m⟩:=aB8 c.so (c.ex (.inr d));let⟨a,b⟩:=fit_folds c d h.ev g l;exact fol5_vc f _ s e x h d g rfl a b;exact fol0_vc f s e h ⟨j,k,d,i⟩
def find_sized(h:Ok s n) i:eY (bF5 s i):=by
 unfold bF5;cases a:s.stocks[fst (λx=>sid x=i) s.stocks]? with
 |none=>exact⟨xZ,by simp[wS,bar0]⟩
 |some x=>exact h.sz x (fC a)
def fol_ok(hs:Ok s n)(hs':Ok s' n)(hn:n<=1000000)(he:iY e)(h0:(appR s e).2=0)(hf:FitN f s' e):FolOk f s' e where
 so:=hf.so
 ln:=hf.ln
 ev:=he
 lp:=Rz hs'.lp hn
 ls:=Rz hs'.ls hn
 sz:=find_sized hs'
 sh:=λhk=>aX9 ((aZ6 hs h0).1.2.2.2.1 hk).2
 no:=λhk=>by
  have:=(aZ6 hs h0).1.2.2.1 hk;simp_all
theorem addN_len f x:(addN f x).length=f.length+1:=mQ
def follow_len:(followN f s e).length<=f.length+more e:=by
 have c:∀ l  f ,(cutsN f s l).length=f.length+l.length:=by
  intro l;induction l<;>grind [addN_len,Ro,cutsN]
 have r:∀ n  l  f ,(restsN f s n l).length=f.length+l.length:=by
  intro n l;induction l<;>grind [addN_len,Ro,restsN]
 grind [TK,addN_len,goneAt,followN,growN,more]
def loop_4{T:Tab}{σ:St}{x:aA2}{Q:Exit->St->Prop}{A B C D:Type}(st:A->B->C->D->St)(inv:A->B->C->D->Prop)(m:A->B->C->D->Nat)(g:A)(i:B)(j:C)(d0:D)(k:Le T σ (st g i j d0))(l:inv g i j d0)(h:∀a b c d,inv a b c d->x (st a b c d) λe f=>match e with
 | .normal=>∃p':A×B×C×D,Le T f (st p'.1 p'.2.1 p'.2.2.1 p'.2.2.2)/\inv p'.1 p'.2.1 p'.2.2.1 p'.2.2.2/\m p'.1 p'.2.1 p'.2.2.1 p'.2.2.2<m a b c d
 |e=>Q e f):bI0 T x σ Q:=
 lD (A:=A×B×C×D) (λp=>st p.1 p.2.1 p.2.2.1 p.2.2.2) (λp=>inv p.1 p.2.1 p.2.2.1 p.2.2.2) (λp=>m p.1 p.2.1 p.2.2.1 p.2.2.2) (g,i,j,d0) k l (λp n=>h p.1 p.2.1 p.2.2.1 p.2.2.2 n)
def bldSt(l:List Event)(s:aJ)(F:List Node)(D:List Event):St:=mkSt [(0, .sl (l.map aS)),(2, .arr 32 D.length),(3,I 0),(4,I 0),(5, .box 5 0),(10, .sl (l.map aS)),(11,I l.length),(12,I D.length)] [(5,invC s)] [(32,⟨D.length, .own,40,F.map nodeV⟩)]
def build_spec l(z:∀e∈l,iY e)(N:moreL l<=1000000)(O:l.length<=1000000)(E:fitAll inv0 [] l):Sp 7 [.sl (l.map aS)] (.tup [.own 40 ((buildF inv0 [] 0 l).1.map nodeV),I (buildF inv0 [] 0 l).2.1,I (buildF inv0 [] 0 l).2.2]):=by
 refine zsp func7 ?_;have hm:(l.map aS).length=l.length:=Ad;generalize J:buildF inv0 [] 0 l=q;repeat' ((conv=>whnf);first|omega|refine zS ?_|refine zm (λx hx=>?_)|refine zT ?_ ?_<;>intro _|fail)
 refine loop_4 (A:=aJ) (B:=List Node) (C:=List Event) (D:=List Event) (λs F D R=>bldSt l s F D) (λs F D R=>l=D++R/\buildF s F D.length R=q/\fitAll s F R/\∃n,Ok s n/\F.length<=n/\n+moreL R<=1000000) (λs F D R=>R.length) inv0 [] [] l ?_ ⟨rfl,J,E,0,ok0,Rf _,Aa⟩ (λs F D R hp=>?_);show Le T _ (mkSt [(0, .sl (l.map aS)),(2, .arr 32 0),(3,I 0),(4,I 0),(5, .box 5 0),(10, .sl (l.map aS)),(11,I l.length),(12,I 0)] [(5,invC inv0)] [(32,⟨0, .own,40,[]⟩)]);rw[<-hm];exact zj;let⟨hp,b,f,n,t,y,H⟩:=hp;cases R with
 |nil=>
  have hlen:l.length=D.length:=Ae;have e:q=(F,(D.length:Int),0):=by rw[<-b];rfl
  exact Oa
 |cons e R=>
  have hlen:=aO hp;have K:moreL (e::R)=more e+moreL R:=ED;have d:=z e Ae;have g:=kG t (e:=e) Aa d;let⟨v,w⟩:=g;have k:((D++[e]).length:Int)=(D.length:Int)+1:=Ad;have m:buildF s F D.length (e::R)=if(appR s e).2=0 then buildF (appR s e).1 (followN F (appR s e).1 e) ((D.length:Int)+1) R else(F,(D.length:Int),(appR s e).2):=rfl
  have j:fitAll s F (e::R)=((appR s e).2=0->FitN F (appR s e).1 e/\fitAll (appR s e).1 (followN F (appR s e).1 e) R):=rfl;rw[m]at b;rw[j]at f;by_cases c:(appR s e).2=0
  ·rw[QU c]at b
   have r:=w c;let⟨o,u⟩:=f c;have G:more e=1+e.cuts.length+e.rests.length:=rfl;have L:=follow_spec F (appR s e).1 e (fol_ok (t.mono Aa) (r.mono (Rf _)) Aa d c o) o Aa;have M:= @follow_len F (appR s e).1 e;rw[c]at v;generalize followN F (appR s e).1 e=i at*;generalize appR s e=a at*;repeat' ((conv=>whnf);first|omega|refine zS ?_|refine zm (λx hx=>?_)|refine zT ?_ ?_<;>intro _|fail)
   all_goals conv=>whnf
   refine⟨(a.1,i,D++[e],R),?_,⟨Ae,by rw[k];exact b,u,n+more e,r,by show i.length<=_;omega,GV⟩,Ad⟩;show Le T _ (bldSt l a.1 i (D++[e]));unfold bldSt;exact Nh
  rw[Q9 c]at b;subst b;generalize appR s e=a at*;exact Nj
theorem map_bs key(l:List a) t:bs id (l.map key) t=bs key l t:=by
 unfold bs;rw[List.takeWhile_map,Rw];rfl
def map_put key l(x:a):(putAt l (bs key l (key x)) x).map key=putN (l.map key) (key x):=by
 unfold putN;rw[map_bs];unfold putAt;simp_all
theorem addN_ids f x:(addN f x).map Node.id=putN (f.map Node.id) x.id:=map_put Node.id f x
theorem fold_ids:∀(xs f:List Node),(xs.foldl addN f).map Node.id=cO (f.map Node.id) (xs.map Node.id)
 | [],f=>rfl
 |x::xs,f=>by
  rw[RV,fold_ids xs,addN_ids];rfl
theorem gone_ids f i e:(goneAt f i e).map Node.id=f.map Node.id:=by
 unfold goneAt;split;rename_i x h;let⟨a,b⟩:=QW.1 h;rw[Vd];have:(goneN x (if e.kind=8 then x.size else e.scrap)).id=(f.map Node.id)[i]'(by simpa using a):=by rw[List.getElem_map,b];rfl
 rw[this,List.set_getElem_self];rfl
def noLists(h:iD e)(a:e.kind≠5):e.cuts=[]/\e.rests=[] :=by
 have:=h.2.2.1 a;simp_all
def find_rest(h:Ok s n)(a:x∈s.stocks)(hi:sid x=i):bF5 s i=x:=by
 subst hi;unfold bF5;rw[eF7 h a];rfl
def find_piece(h:Ok s n)(a:x∈s.pieces)(hi:x.id=i):bF0 s i=x:=by
 subst hi;unfold bF0;rw[dK2 h a];rfl
def cutsN_eq{g:Made->Piece}:∀ {l} {f},(∀c∈l,bF0 s c.id=g c)->cutsN f s l=(l.map λc=>pieceN (g c) (g c).parent).foldl addN f
 | [],f,_=>rfl
 |c::l,f,h=>by
  unfold cutsN;rw[RV,h c Ad,Rt,RV];exact cutsN_eq (λx hx=>h x BI)
def restsN_eq{g:Rest->aN}:∀ {l} {f},(∀r∈l,bF5 s r.id=g r)->restsN f s n l=(l.map λr=>nodeOf (g r) n).foldl addN f
 | [],f,_=>rfl
 |c::l,f,h=>by
  unfold restsN;rw[RV,h c Ad,Rt,RV];exact restsN_eq (λx hx=>h x BI)
theorem put_in:∀ {xs l:List a},(y∈l\/y∈xs)->y∈xs.foldl (putK key) l
 | [],l,h=>h.elim id (λh=>Ah)
 |x::xs,l,h=>by
  rw[RV];refine put_in ?_;rcases h with h|h;exact .inl (fH.2 (.inr h));rcases Rl.1 h with rfl|h;exact .inl (fH.2 (.inl rfl));exact .inr h
def newN(s:aJ)(x:Node):Prop:=x.id∉s.used/\x.gone=false/\x.scrap=0
inductive Grown(f:List Node)(s s':aJ)(e:Event):List Node->Prop
 |same (h:∀m'∈s'.stocks,∃m∈s.stocks,sid m=sid m'):Grown f s s' e f
 |more (xs:List Node) (h:∀x∈xs,newN s x) (hm:∀m'∈s'.stocks,(∃m∈s.stocks,sid m=sid m')\/∃x∈xs,x.id=sid m'):Grown f s s' e (xs.foldl addN f)
 |gone (xs:List Node) (h:∀x∈xs,newN s x) (h0:∃m∈s.stocks,sid m=e.id)
  (hm:∀m'∈s'.stocks,(sid m'≠e.id/\∃m∈s.stocks,sid m=sid m')\/∃x∈xs,x.id=sid m'):Grown f s s' e (xs.foldl addN (goneAt f (bs Node.id f e.id) e))
def node_new(h:sid x∉s.used):newN s (nodeOf x p):=by
 let⟨a,b,_⟩:=nodeOf_gone x p;exact⟨by rw[nodeOf_id];exact h,a,b⟩
def put_mem:∀ {xs l:List a},y∈xs.foldl (putK key) l->y∈l\/y∈xs
 | [],l,h=> .inl h
 |x::xs,l,h=>by
  rw[RV]at h;rcases put_mem h with h|h;rcases fH.1 h with rfl|h;exact .inr (SQ ..);exact .inl h;exact .inr (RZ _ h)
def out_ne{key:c->Int}(e:(l.map key).Pairwise (·<·))(d:l[k]? =some m)(a:y∈nN l k):key y≠key m:=by
 unfold nN at a;rcases Rh.1 a with a|a;let⟨j,b⟩:=List.mem_iff_getElem?.1 a;rw[TV]at b;grind [sorted_at];let⟨j,b⟩:=List.mem_iff_getElem?.1 a;rw[SA]at b;have:=sorted_at e d b Aa;omega
def out_other(b:Ok s n)(a:s.stocks[k]? =some m)(c:y∈nN s.stocks k):sid y≠sid m:=out_ne b.ss a c
def follow_fit(d:f.map Node.id=s.used)(O:Ok s n)(A:Ok s' n')(hn:n<=1000000)(T:iD e)(hs:Step s e s'):
 (followN f s' e).map Node.id=s'.used/\FitN f s' e/\Grown f s s' e (followN f s' e):=by
 have q:(f.map Node.id).Pairwise (·<·):=by
  have:=O.su;rw[List.map_id]at this;rw[d];exact this
 have u:f.length<=1000000:=by
  have:=O.lu;grind
 have D:∀ {i:Int} {x:Node},x∈f->i∉s.used->x.id≠i:=λF hi e=>hi (by rw[<-e,<-d];exact RD F)
 have J:∀m∈s.stocks,∃x∈f,x.id=sid m:=λm w=>by
  have:=O.us m w;grind
 have z:e.kind≠5->e.kind≠1->e.kind≠2->newI s' e=[] :=λY t v=>by
  let⟨Q,R⟩:=noLists T Y;simp_all [Q9,newI]
 have E:e.kind≠1->e.kind≠2->e.kind≠8->e.kind≠5->followN f s' e=f/\FitN f s' e:=λt v h3 S=>by
  let⟨Q,R⟩:=noLists T S;refine⟨?_,⟨q,u,λh=>Aa,λi hi=>?_,?_⟩⟩;unfold followN growN;rw[Q9 t,Q9 v,Q9 Aa,Q,R];rfl;rw[z S t v]at hi;cases hi;rw[z S t v];exact List.Pairwise.nil
 cases hs with
 |recv x F N=>
  have G:followN f (aX7 s x) e=addN f (nodeOf x 0):=by
   unfold followN;grind
  have I:newI (aX7 s x) e=[sid x] :=by
   unfold newI;rcases F with⟨t,v,_⟩|⟨t,v,_⟩;rw[QU t,v];rfl;rw[Q9 Aa,QU t,v];rfl
  refine⟨by rw[G,addN_ids,d,nodeOf_id];rfl,⟨q,u,λh=>?_,λi hi y P=>?_,?_⟩,?_⟩;rcases F with⟨t,_⟩|⟨t,_⟩<;>omega;rw[I]at hi;rw[Ri.1 hi];exact D P N;rw[I];exact Ui _ _;rw[G];refine .more [nodeOf x 0] (λy P=>by rw[Ri.1 P];exact node_new N) (λB j=>?_);rcases fH.1 j with rfl|h;exact .inr ⟨_,Ri.2 rfl,nodeOf_id _ _⟩;exact .inl ⟨B,h,rfl⟩
 |setK k m p K w l=>
  let⟨a,b⟩:=E Aa Aa Aa Aa;rw[a];refine⟨d,b, .same λB j=>?_⟩;rcases mem_set j with rfl|h;exact⟨m,fC w,rfl⟩;exact⟨B,h,rfl⟩
 |setP k m st o K w aa l=>
  let⟨a,b⟩:=E Aa Aa Aa Aa;rw[a];exact⟨d,b, .same λB j=>⟨B,j,rfl⟩⟩
 |disc k m K w l=>
  let⟨Q,R⟩:=noLists T Aa
  have G:followN f (aX4 s k m) e=goneAt f (bs Node.id f e.id) e:=by
   unfold followN growN;rw[Q9 Aa,Q9 Aa,QU (.inl K),Q,R];rfl
  rw[G,gone_ids];refine⟨d,⟨q,u,λ_=>?_,λi hi=>?_,?_⟩, .gone [] Ad ⟨m,fC w,l⟩ λB j=> .inl ⟨by rw[<-l];exact out_other O w j,B,(kM _ _).subset j,rfl⟩⟩;let⟨x,t,v⟩:=J m (fC w);exact⟨x,t,v.trans l⟩;rw[z Aa Aa Aa]at hi;cases hi;rw[z Aa Aa Aa];exact List.Pairwise.nil
 |cut k m K Z U w l hp W hl=>
  have M:∀r∈e.rests,dZ m r∈(cut5 s e k m).stocks:=λr hr'=>by
   rw[aF7];grind [put_in,mV,RD]
  have L:∀c∈e.cuts,fZ e m c∈(cut5 s e k m).pieces:=λc H=>by
   rw[aG4];exact put_in (.inr (RD H))
  have hrid:=λr hr'=>cL1 (tZ W r hr');have C:(e.cuts.map (λc=>pieceN (fZ e m c) e.id)++e.rests.map λr=>nodeOf (dZ m r) e.id).map Node.id=fO e:=La
  have G:followN f (cut5 s e k m) e=(e.cuts.map (λc=>pieceN (fZ e m c) e.id)++e.rests.map λr=>nodeOf (dZ m r) e.id).foldl addN (goneAt f (bs Node.id f e.id) e):=by
   unfold followN growN;rw[Q9 Aa,Q9 Aa,QU (.inr K),restsN_eq (g:=dZ m) (λr hr'=>find_rest A (M r hr') (hrid r hr')),cutsN_eq (g:=fZ e m) (λc H=>find_piece A (L c H) rfl),TR];rfl
  have I:newI (cut5 s e k m) e=fO e:=by
   unfold newI fO;rw[Q9 Aa,Q9 Aa];congr 1;exact Ti λc H=>by rw[find_piece (i:=c.id) A (L c H) rfl];rfl
   exact Ti λr hr'=>by rw[find_rest A (M r hr') (hrid r hr')];exact hrid r hr'
  let⟨V,X⟩:=qJ.1 U
  have g:Grown f s (cut5 s e k m) e ((e.cuts.map (λc=>pieceN (fZ e m c) e.id)++e.rests.map λr=>nodeOf (dZ m r) e.id).foldl addN (goneAt f (bs Node.id f e.id) e)):=
   .gone _ (λx F=>by
    refine⟨V _ (by rw[<-C];exact RD F),?_⟩;rcases Rh.1 F with h|h;obtain⟨c,H,rfl⟩:=Rn.1 h;exact⟨rfl,rfl⟩;obtain⟨r,hr',rfl⟩:=Rn.1 h
    exact⟨(nodeOf_gone _ _).1,(nodeOf_gone _ _).2.1⟩) ⟨m,fC w,l⟩ λB j=>by
    rw[aF7]at j;rcases put_mem j with h|h;exact .inl ⟨by rw[<-l];exact out_other O w h,B,(kM _ _).subset h,rfl⟩;rw[mV W]at h;obtain⟨r,hr',rfl⟩:=Rn.1 h;exact .inr ⟨_,Rh.2 (.inr (RD hr')),nodeOf_id _ _⟩
  rw[G];refine⟨by rw[fold_ids,gone_ids,d,C];rfl,⟨q,u,λ_=>?_,λi hi y P=>?_,?_⟩,g⟩;let⟨x,t,v⟩:=J m (fC w);exact⟨x,t,v.trans l⟩;rw[I]at hi;exact D P (V i hi);rw[I];exact X
def fit_all:∀ l  s  f  n,Ok s n->f.map Node.id=s.used->n+moreL l<=1000000->fitAll s f l
 | [],_,_,_,_,_,_=>trivial
 |e::l,s,f,n,d,hi,m=>λi=>by
  have k:moreL (e::l)=more e+moreL l:=ED;let⟨j,g⟩:=aZ6 d i;have c:=eR5 d g;let⟨a,b,_⟩:=follow_fit hi d c Aa j g;exact⟨b,fit_all l _ _ _ c a Aa⟩
def mem_set_at{a:Type}{l:List a}{m x}(b:l[k]? =some m):x∈l.set k x:=by
 let⟨h,_⟩:=QW.1 b;exact List.mem_iff_getElem?.2 ⟨k,by rw[List.getElem?_set_self h]⟩
def mem_at{c:Type}{l:List c}{x y z}(b:l[i]? =some x):z∈l.set i y↔z=y\/∃j,j≠i/\l[j]? =some z:=by
 let⟨hi,_⟩:=QW.1 b;constructor;intro h;let⟨j,a⟩:=RF h;grind;rintro(rfl|⟨j,a,h⟩);exact mem_set_at b;exact List.mem_iff_getElem?.2 ⟨j,by rw[List.getElem?_set,Q9 (λe=>a e.symm)];exact h⟩
def set_mem{f:List Node}(h:(f.map Node.id).Pairwise (·<·))(b:f[i]? =some x):z∈f.set i y↔z=y\/(z∈f/\z.id≠x.id):=by
 rw[mem_at b];refine or_congr RU ⟨?_,?_⟩;grind [fC,Nat.lt_or_gt_of_ne,sorted_at];rintro⟨c,a⟩;let⟨j,d⟩:=RF c;grind
structure Fo(s:aJ)(f:List Node):Prop where
 ids:f.map Node.id=s.used
 sc:∀x∈f,x.gone=false->x.scrap=0
 ng:∀m∈s.stocks,∀x∈f,x.id=sid m->x.gone=false
def fo0:Fo inv0 [] :=⟨rfl,Ad,Ad⟩
def Fo.so(h:Fo s f)(a:Ok s n):SortN f:=by
 have:=a.su;rw[List.map_id]at this;show(f.map Node.id).Pairwise _;rw[h.ids];exact this
def normN(l x:Node):Node:=if l.gone then x else {x with gone:=false,scrap:=0}
def norm_self(h:l.gone=false->l.scrap=0):normN l l=l:=by
 unfold normN;cases k:l.gone with
 |true=>rfl
 |false=>
  have m:=h k;let⟨a,b,c,d,e,f,g,i,j⟩:=l;simp_all
def norm_gone(k:l.gone=false)(h:l.scrap=0):normN l (goneN l c)=l:=by
 unfold normN goneN;rw[k];let⟨a,b,c,d,e,f,g,i,j⟩:=l;simp_all
def Kept(f f':List Node):Prop:=∀l∈f,∃x∈f',x.id=l.id/\normN l x=l
def grown_step(h:Fo s f)(L:Ok s n)(P:Grown f s s' e G)(d:G.map Node.id=s'.used):Fo s' G/\Kept f G:=by
 have k:∀ {x:Node},x∈f->x.id∈s.used:=λhx=>Gu;have u:=h.so L;cases P with
 |same C=>
  refine⟨⟨d,h.sc,λB i x hx e=>?_⟩,λl o=>⟨l,o,rfl,norm_self (h.sc l o)⟩⟩;let⟨m,g,j⟩:=C B i;exact h.ng m g x hx (e.trans j.symm)
 |more xs hx C=>
  have a:∀y,y∈xs.foldl addN f↔y∈f\/y∈xs:=λy=>⟨put_mem (key:=Node.id),put_in (key:=Node.id)⟩;refine⟨⟨d,λx b r=>?_,λB i x b e=>?_⟩,λl o=>⟨l,(a l).2 (.inl o),rfl,norm_self (h.sc l o)⟩⟩;rcases(a x).1 b with q|q;exact h.sc x q r;exact(hx x q).2.2;rcases(a x).1 b with q|q;rcases C B i with⟨m,g,j⟩|⟨y,g,j⟩;exact h.ng m g x q (e.trans j.symm);exact absurd (k q) (by rw[e,<-j];exact(hx y g).1);exact(hx x q).2.1
 |gone xs hx N C=>
  let⟨M,D,t⟩:=N
  obtain⟨z,Q,I⟩:∃z∈f,z.id=e.id:=by
   have:=L.us M D;rw[<-h.ids,t]at this;simp_all
  let⟨y,v,E⟩:=aB8 u ⟨z,Q,I⟩;have A:=fC v;have F:=h.ng M D y A (by rw[E,t]);obtain⟨c,O⟩:∃c,goneAt f (bs Node.id f e.id) e=f.set (bs Node.id f e.id) (goneN y c):=⟨_,by unfold goneAt;rw[v]⟩;rw[O]at d⊢
  have a:∀x,x∈xs.foldl addN (f.set (bs Node.id f e.id) (goneN y c))↔(x=goneN y c\/(x∈f/\x.id≠y.id))\/x∈xs:=λx=>by
   rw[<-set_mem u v];exact⟨put_mem (key:=Node.id),put_in (key:=Node.id)⟩
  refine⟨⟨d,λx b r=>?_,λB i x b H=>?_⟩,λl o=>?_⟩;rcases(a x).1 b with(rfl|⟨q,_⟩)|q;cases r;exact h.sc x q r;exact(hx x q).2.2;rcases(a x).1 b with(rfl|⟨q,R⟩)|q;have K:y.id=sid B:=H;rcases C B i with⟨g,_⟩|⟨w,g,j⟩;exact absurd (by rw[<-K];exact E) g;exact absurd (k A) (by rw[K,<-j];exact(hx w g).1);rcases C B i with⟨_,m,g,j⟩|⟨w,g,j⟩;exact h.ng m g x q (H.trans j.symm);exact absurd (k q) (by rw[H,<-j];exact(hx w g).1);exact(hx x q).2.1;by_cases J:l.id=y.id;have:l=y:=bB9 u o A J;subst this;exact⟨goneN l c,(a _).2 (.inl (.inl rfl)),rfl,norm_gone F (h.sc l o F)⟩;exact⟨l,(a _).2 (.inl (.inr ⟨o,J⟩)),rfl,norm_self (h.sc l o)⟩
def okEv(s:aJ):List Event->List Event
 | [] => []
 |e::l=>if(appR s e).2=0 then e::okEv (appR s e).1 l else okEv s l
def finI(s:aJ):List Event->aJ
 | [] =>s
 |e::l=>finI (appR s e).1 l
def finF(s:aJ)(f:List Node):List Event->List Node
 | [] =>f
 |e::l=>finF (appR s e).1 (followN f (appR s e).1 e) l
def Acc56(s:aJ):List Event->Prop
 | [] =>True
 |e::l=>(appR s e).2=0/\Acc56 (appR s e).1 l
def acc_ok:∀ l  s,Acc56 s (okEv s l)
 | [],_=>trivial
 |e::l,s=>by
  unfold okEv;split;rename_i h;exact⟨h,acc_ok l _⟩;exact acc_ok l s
def okEv_sub:∀ l  s,(okEv s l).Sublist l
 | [],_=>List.Sublist.refl _
 |e::l,s=>by
  unfold okEv;split;exact(okEv_sub l _).cons_cons e;exact(okEv_sub l s).cons e
def acc_take:∀ l  s  n,Acc56 s l->Acc56 s (l.take n)
 | [],_,n,_=>by rw[List.take_nil];trivial
 |e::l,s,0,_=>trivial
 |e::l,s,n+1,h=>⟨h.1,acc_take l _ n h.2⟩
def build_acc:∀ l  s  f  i,Acc56 s l->buildF s f i l=(finF s f l,i+l.length,0)
 | [],s,f,i,_=>by
   show(f,i,(0:Int))=(f,i+((0:Nat):Int),0);rw[Int.natCast_zero,Us]
 |e::l,s,f,i,h=>by
  rw[buildF,QU h.1,build_acc l _ _ _ h.2];exact P7
def acc_fo:∀ l  s  f  n,Ok s n->Fo s f->n+moreL l<=1000000->Acc56 s l->Fo (finI s l) (finF s f l)/\Ok (finI s l) (n+moreL l)
 | [],s,f,n,b,h,_,_=>⟨h,b⟩
 |e::l,s,f,n,b,h,m,d=>by
  have j:moreL (e::l)=more e+moreL l:=ED;let⟨k,i⟩:=aZ6 b d.1;have c:=eR5 b i;let⟨a,_,g⟩:=follow_fit h.ids b c Aa k i;have:=acc_fo l _ _ _ c (grown_step h b g a).1 Aa d.2;rw[j,<-TS];exact this
def Sm(n:Int):Prop:= -10000<=n/\n<=10000
def vG(c:Sm a)(d:Sm b): -100000000<=a*b/\a*b<=100000000:=by
 have h:(a*b).natAbs<=10000*10000:=by
  rw[Int.natAbs_mul];unfold Sm at*;exact UQ Aa Aa
 omega
theorem kN(c:Sm (a.1-b.1))(d:Sm (a.2-b.2)):vsub a b=(a.1-b.1,a.2-b.2):=by
 grind [Sm,vsub,w_in]
theorem iK(c:Sm a.1)(d:Sm a.2)(e:Sm b.1)(f:Sm b.2):bZ a b=a.1*b.2-a.2*b.1:=by
 have g:=vG c f;have h:=vG d e;grind [bZ,w_in]
def bY4(c:Sm a.1)(d:Sm a.2)(e:Sm b.1)(f:Sm b.2):vdot a b=a.1*b.1+a.2*b.2:=by
 have g:=vG c e;have h:=vG d f;grind [vdot,w_in]
theorem tC:cmpI n 0≠0↔n≠0:=by
 grind [cmpI]
theorem qN(a: -m<=v.1)(b:v.1<=m)(c: -m<=v.2)(d:v.2<=m)(e:0<=m/\m<=1000000):within v m:=by
 grind [within,w_in]
def rr(a b c d:Int):Rg:=[(a,b),(c,b),(c,d),(a,d)]
structure RB(a b c d:Int):Prop where
 x0:0<=a
 x1:a<c
 x2:c<=1900
 y0:0<=b
 y1:b<d
 y2:d<=1900
def uY{x y:Int}(a:0<x)(b:0<y):0<x*y:=Int.mul_pos a b
theorem bD6 a b c d:bF (rr a b c d)=[((a,b),(c,b)),((c,b),(c,d)),((c,d),(a,d)),((a,d),(a,b))] :=Ac
theorem eU3 a b c d:iU (rr a b c d) 0=(c,b):=Ac
theorem eV9 a b c d:iU (rr a b c d) 1=(c,d):=Ac
theorem eU5 a b c d:iU (rr a b c d) 2=(a,d):=Ac
theorem eV3 a b c d:iU (rr a b c d) 3=(a,b):=Ac
theorem eV2 a b c d:mY (rr a b c d) 0=(a,d):=Ac
theorem eV8 a b c d:mY (rr a b c d) 1=(a,b):=Ac
theorem eU8 a b c d:mY (rr a b c d) 2=(c,b):=Ac
theorem eV0 a b c d:mY (rr a b c d) 3=(c,d):=Ac
def eL5(h:RB a b c d):0<zY (rr a b c d):=by
 let⟨e,A,f,g,B,i⟩:=h;have s:∀n:Int,0<=n->n<=1900->Sm n:=λn o q=>⟨Aa,Aa⟩;have j:bZ (a,b) (c,b)=a*b-b*c:=iK (s a e Aa) (s b g Aa) (s c Aa f) (s b g Aa);have k:bZ (c,b) (c,d)=c*d-b*c:=iK (s c Aa f) (s b g Aa) (s c Aa f) (s d Aa i);have l:bZ (c,d) (a,d)=c*d-d*a:=iK (s c Aa f) (s d Aa i) (s a e Aa) (s d Aa i);have m:bZ (a,d) (a,b)=a*b-d*a:=iK (s a e Aa) (s d Aa i) (s a e Aa) (s b g Aa);have u:=vG (s a e Aa) (s b g Aa);have v:=vG (s b g Aa) (s c Aa f);have w:=vG (s c Aa f) (s d Aa i);have z:=vG (s d Aa i) (s a e Aa);have r:zY (rr a b c d)=W (W (W (W (0+bZ (a,b) (c,b))+bZ (c,b) (c,d))+bZ (c,d) (a,d))+bZ (a,d) (a,b)):=Ac;have t:=uY (x:=c-a) (y:=d-b) Aa Aa;grind [Int.sub_mul,Int.mul_sub,Int.mul_comm,w_in]
def yN(e:0<=u.1/\u.1<=1900/\0<=u.2/\u.2<=1900)(hv:0<=v.1/\v.1<=1900/\0<=v.2/\v.2<=1900)(f:0<=w.1/\w.1<=1900/\0<=w.2/\w.2<=1900):
 kR u v w=cmpI ((v.1-u.1)*(w.2-u.2)- (v.2-u.2)*(w.1-u.1)) 0:=by
 unfold kR;have s:∀m n:Int,0<=m->m<=1900->0<=n->n<=1900->Sm (m-n):=λm n a b c d=>⟨Aa,Aa⟩;grind [kN,iK]
def dX7(h:RB a b c d):∀i,i< (rr a b c d).length->kR (mY (rr a b c d) i) ((rr a b c d).getD i z0) (iU (rr a b c d) i)≠0:=by
 let⟨g,j,k,l,m,n⟩:=h;intro i hi;have f:i<4:=hi;have e:i=0\/i=1\/i=2\/i=3:=Aa;rcases e with rfl|rfl|rfl|rfl;rw[eV2,eU3];show kR (a,d) (a,b) (c,b)≠0;exact O4;rw[eV8,eV9];show kR (a,b) (c,b) (c,d)≠0;exact Pz;rw[eU8,eU5];show kR (c,b) (c,d) (a,d)≠0;exact O4;rw[eV0,eV3];show kR (c,d) (a,d) (a,b)≠0;exact O4
def On19(v:Vc):Prop:=0<=v.1/\v.1<=1900/\0<=v.2/\v.2<=1900
theorem eE4(a:On19 s.1)(b:On19 s.2):bI s:=by
 unfold On19 at*;exact⟨qN Aa Aa Aa Aa Aa,qN Aa Aa Aa Aa Aa⟩
theorem yC(a:On19 s.1)(b:On19 s.2)(c:On19 t.1)(d:On19 t.2):jC s t=(s.2.1-s.1.1)*(t.2.2-t.1.2)- (s.2.2-s.1.2)*(t.2.1-t.1.1):=by
 unfold On19 at*;have e:∀m n:Int,0<=m->m<=1900->0<=n->n<=1900->Sm (m-n):=λm n a b c d=>⟨Aa,Aa⟩;grind [kN,iK,jC]
def bW0(a:On19 s.1)(b:On19 s.2)(c:On19 t.1)(d:On19 t.2):lX s t=(t.1.1-s.1.1)*(t.2.2-t.1.2)- (t.1.2-s.1.2)*(t.2.1-t.1.1):=by
 unfold On19 at*;have e:∀m n:Int,0<=m->m<=1900->0<=n->n<=1900->Sm (m-n):=λm n a b c d=>⟨Aa,Aa⟩;grind [kN,iK,lX]
def bT9(a:On19 s.1)(b:On19 s.2)(c:On19 t.1)(d:On19 t.2):lS s t=(t.1.1-s.1.1)*(s.2.2-s.1.2)- (t.1.2-s.1.2)*(s.2.1-s.1.1):=by
 unfold On19 at*;have e:∀m n:Int,0<=m->m<=1900->0<=n->n<=1900->Sm (m-n):=λm n a b c d=>⟨Aa,Aa⟩;grind [kN,iK,lS]
def aP6(h:jC s t=0):dG s t≠2:=by
 unfold dG kQ;split;show(0:Int)≠2;decide;rw[Q9 (λq=>q h)];split;show(1:Int)≠2;decide;split;show(1:Int)≠2;decide;split;show(0:Int)≠2;decide;unfold yD;split;show(1:Int)≠2;decide;split;show(3:Int)≠2;decide;show(0:Int)≠2;decide
def cL8(h:jC s t=0)(a:kR s.1 s.2 t.1≠0)(b:s.1≠s.2)(c:t.1≠t.2):dG s t=0:=by
 unfold dG kQ;split;rfl;rw[Q9 (λq=>q h),Q9 (λq=>b q.1),Q9 (λq=>c q.1),QU (.inr (.inr a))];rfl
def cN5(h:jC s t≠0)(a:dG s t=2):(0<jC s t/\0<lX s t/\lX s t<jC s t/\0<lS s t/\lS s t<jC s t)\/
 (jC s t<0/\0<W (0-lX s t)/\W (0-lX s t)<W (0-jC s t)/\0<W (0-lS s t)/\W (0-lS s t)<W (0-jC s t)):=by
 unfold dG kQ at a;split at a
 ·cases a
 ·unfold lines at a
  simp only at a;split at a
  ·cases a
  ·rename_i d
   have b:=a;unfold aH6 at b;split at b
   ·cases b
   ·rename_i c
    unfold turned at d c;grind
def bL1(h:RB a b c d):On19 (a,b)/\On19 (c,b)/\On19 (c,d)/\On19 (a,d):=by
 let⟨e,f,g,i,j,k⟩:=h;grind [On19]
theorem eT7(h:RB a b c d):dG ((a,b),(c,b)) ((c,d),(a,d))=0:=by
 let⟨f,g,i,j⟩:=bL1 h;let⟨k,l,m,n,o,q⟩:=h;refine cL8 ?_ ?_ ?_ ?_;grind [yC];show kR (a,b) (c,b) (c,d)≠0;exact Pz;intro e;have:a=c:=RI Prod.fst e;omega;intro e;have:c=a:=RI Prod.fst e;omega
theorem eS9(h:RB a b c d):dG ((c,b),(c,d)) ((a,d),(a,b))=0:=by
 let⟨f,g,i,j⟩:=bL1 h;let⟨k,l,m,n,o,q⟩:=h;refine cL8 ?_ ?_ ?_ ?_;grind [yC];show kR (c,b) (c,d) (a,d)≠0;exact O4;intro e;have:b=d:=RI Prod.snd e;omega;intro e;have:d=b:=RI Prod.snd e;omega
def dB7(h:RB a b c d):dM (rr a b c d):=by
 refine⟨(by decide:3<=4),(by decide:4<=40),?_,eL5 h,dX7 h,?_⟩;let⟨l,m,n,o,p,q⟩:=h;intro v hv;have j:v=(a,b)\/v=(c,b)\/v=(c,d)\/v=(a,d):=by simpa [rr]using hv
 grind [qN];intro i k e f;have g:k<4:=f;rw[bD6];show k≠i+1->(i≠0\/k≠4-1)->_;grind [eT7,eS9]
def rS(a b c d:Int):Sh:=⟨rr a b c d,[]⟩
def bC0(h:RB a b c d):bG (rS a b c d):=by
 refine⟨RY 6,λr e=>?_,(by decide:4<=80),trivial⟩;rw[Ri.1 (show r∈[rr a b c d]from e)];exact dB7 h
theorem aG2:kF x m↔x.2<m.2\/(x.2=m.2/\x.1<m.1):=by
 grind [kF,vcmp,orI,cmpI]
def eG8(h:RB a b c d):wL (rr a b c d)=rr a b c d:=by
 let⟨g,i,j,k,l,m⟩:=h
 have e:wO (rr a b c d)=(a,b):=by
  show sQ (a,b) [(c,b),(c,d),(a,d)] =(a,b);rw[wF,Q9 Hr,wF,Q9 Hr,wF,Q9 Hr];rfl
 unfold wL;rw[e]
 have f:sN (a,b) (rr a b c d) 0=some 0:=by
  show sN (a,b) ((a,b)::_) 0=some 0;rw[sN,QU rfl]
 simp_all
def cP4(h:RB a b c d):qO (rS a b c d)=rS a b c d:=by
 rw[aN9 (bC0 h)]
 have e:gQ (rS a b c d).outer=rr a b c d:=by
  show gQ (rr a b c d)=_;unfold gQ;rw[QU (dB7 h),eG8 h]
 rw[e];rfl
def bU1(h:RB a b c d):jV (rS a b c d):=⟨bC0 h,(cP4 h).symm⟩
def eD8(h:RB a b c d):(boxS (rS a b c d)).1=((a,b),(c,d)):=by
 rw[eG7 (bC0 h)];show(boxR (rr a b c d)).1=_;rw[dX3 (dB7 h)];let⟨e,f,g,i,j,k⟩:=h;show gU (gU (gU (gU ((a,b),(a,b)) (a,b)) (c,b)) (c,d)) (a,d)=_;grind [gU]
def cL4(h:RB (x.1.1-v.1) (x.1.2-v.2) (x.2.1-v.1) (x.2.2-v.2)):jT x v=rS (x.1.1-v.1) (x.1.2-v.2) (x.2.1-v.1) (x.2.2-v.2):=by
 have a:=h;let⟨b,c,d,f,g,i⟩:=h;show qO (sV (vsub x.1 v) (vsub x.2 v))=_;rw[kN ⟨Aa,Aa⟩ ⟨Aa,Aa⟩,kN ⟨Aa,Aa⟩ ⟨Aa,Aa⟩]
 have e:sV (x.1.1-v.1,x.1.2-v.2) (x.2.1-v.1,x.2.2-v.2)=rS (x.1.1-v.1) (x.1.2-v.2) (x.2.1-v.1) (x.2.2-v.2):=by
  unfold sV;rw[Q9];rfl;grind [qN]
 rw[e];exact cP4 a
def gcd_one n:divisor n 1=1:=by
 have h:gcdI n 1=1:=by
  simp_all [Int.tmod_one,gcdI]
 unfold divisor;rw[h];decide
def eE5(h:On19 p):wJ (p.1,p.2,1):=by
 unfold On19 at h;refine⟨⟨(by decide:(1:Int)<=1),(by decide:(1:Int)<=134217728),?_⟩,gcd_one _⟩;show within (p.1,p.2) (W (4000*1));rw[show W (4000*1)=4000 from Ai];grind [qN]
theorem uZ(a:On19 p)(b:On19 v):toP (p.1,p.2,1) v=(p.1-v.1,p.2-v.2):=by
 unfold On19 at*;unfold toP;simp[Int.mul_one];grind [w_in]
def aP9(a:On19 p)(b:On19 e.1)(c:On19 e.2):bV4 (p.1,p.2,1) e=(e.2.1-e.1.1)*(p.2-e.1.2)- (e.2.2-e.1.2)*(p.1-e.1.1):=by
 unfold bV4;rw[uZ a b];unfold On19 at*;rw[kN ⟨Aa,Aa⟩ ⟨Aa,Aa⟩,iK ⟨Aj,Aj⟩ ⟨Aj,Aj⟩ ⟨Aj,Aj⟩ ⟨Aj,Aj⟩]
def pG{k n:Int}(a:0<k):(k*n=0↔n=0)/\(0<k*n↔0<n)/\(k*n<0↔n<0):=by
 refine⟨⟨λh=>?_,λh=>by rw[h,Int.mul_zero]⟩,⟨λh=>?_,λh=>Int.mul_pos a h⟩,⟨λh=>?_,λh=>Int.mul_neg_of_pos_of_neg a h⟩⟩;grind [Int.mul_eq_zero];exact Int.pos_of_mul_pos_right h a|>λx=>x
 exact Int.neg_of_mul_neg_right h Aa|>λx=>x
def on_h(c:On19 p)(d:On19 (a,y))(e:On19 (b,y))(f:a≠b):(onE (p.1,p.2,1) ((a,y),(b,y))↔p.2=y/\min a b<=p.1/\p.1<=max a b)/\¬rW (p.1,p.2,1) ((a,y),(b,y)):=by
 constructor;unfold onE;rw[aP9 c d e,uZ c d,uZ c e];grind;grind [uZ,rW]
def on_v(c:On19 p)(d:On19 (x,a))(e:On19 (x,b))(f:a≠b):(onE (p.1,p.2,1) ((x,a),(x,b))↔p.1=x/\min a b<=p.2/\p.2<=max a b):=by
 unfold onE;rw[aP9 c d e,uZ c d,uZ c e];grind
def eP8(c:On19 p)(d:On19 (x,a))(e:On19 (x,b))(f:a<b):rW (p.1,p.2,1) ((x,a),(x,b))↔a<=p.2/\p.2<b/\p.1<x:=by
 unfold rW;rw[aP9 c d e,uZ c d,uZ c e];simp only;rw[show x-x=0 from Aa,Int.zero_mul];let⟨g,i,j⟩:=pG (k:=b-a) (n:=p.1-x) Aa;omega
theorem dN2(c:On19 p)(d:On19 (x,a))(e:On19 (x,b))(f:b<a):rW (p.1,p.2,1) ((x,a),(x,b))↔b<=p.2/\p.2<a/\p.1<=x:=by
 unfold rW;rw[aP9 c d e,uZ c d,uZ c e];simp only;rw[show x-x=0 from Aa,Int.zero_mul];let⟨g,i,j⟩:=pG (k:=a-b) (n:=p.1-x) Aa;grind
def wR(a b c d:Int)(p:Vc):Prop:=a<p.1/\p.1<c/\b<p.2/\p.2<d
def wP(a b c d:Int)(p:Vc):Prop:=a<=p.1/\p.1<=c/\b<=p.2/\p.2<=d
def eG1(h:RB a b c d)(e:On19 p):
 (wR a b c d p/\iF (rr a b c d) (p.1,p.2,1)=2)\/(¬wR a b c d p/\wP a b c d p/\iF (rr a b c d) (p.1,p.2,1)=1)\/(¬wP a b c d p/\iF (rr a b c d) (p.1,p.2,1)=0):=by
 rw[aD9 (dB7 h) (eE5 e),bD6];let⟨i,f,g,j⟩:=bL1 h;let⟨s,t,u,v,w,x⟩:=h;let⟨k,l⟩:=on_h e i f Aa;have m:=on_v e f g Aa;have n:=eP8 e f g Aa;let⟨o,q⟩:=on_h e g j Aa;have r:=on_v e j i Aa;grind [dN2,oP,jD,rE,qB,wR,wP]
def aP7(h:RB a b c d)(g:On19 p):
 (wR a b c d p/\lJ (rS a b c d) p=2)\/(¬wR a b c d p/\wP a b c d p/\lJ (rS a b c d) p=1)\/(¬wP a b c d p/\lJ (rS a b c d) p=0):=by
 have e:lJ (rS a b c d) p=iF (rr a b c d) (p.1,p.2,1):=by
  have i:within p 4000:=by
   grind [qN,On19]
  rw[cO2 i];by_cases f:iF (rr a b c d) (p.1,p.2,1)=2;rw[bP9 (bC0 h) f,f];rfl;rw[bQ2 (bC0 h) f];rfl
 rw[e];exact eG1 h g
def eF5(a:On19 s.1)(b:On19 s.2)(c:On19 p):eX s p↔min s.1.1 s.2.1<=p.1/\p.1<=max s.1.1 s.2.1/\min s.1.2 s.2.2<=p.2/\p.2<=max s.1.2 s.2.2/\(s.2.1-s.1.1)*(p.2-s.1.2)- (s.2.2-s.1.2)*(p.1-s.1.1)=0:=by
 unfold eX;rw[yN a b c]
 have d:(aC7 [s.1,s.2]).1=((min s.1.1 s.2.1,min s.1.2 s.2.2),(max s.1.1 s.2.1,max s.1.2 s.2.2)):=by
  show gU (gU (s.1,s.1) s.1) s.2=_;grind [gU]
 grind [tC,eE4,bJ8]
def dF0(c:On19 (a,y))(d:On19 (b,y))(e:On19 p):eX ((a,y),(b,y)) p↔p.2=y/\min a b<=p.1/\p.1<=max a b:=by
 rw[eF5 c d e];grind
def dH4(c:On19 (x,a))(d:On19 (x,b))(e:On19 p):eX ((x,a),(x,b)) p↔p.1=x/\min a b<=p.2/\p.2<=max a b:=by
 rw[eF5 c d e];grind
end Go.Proofs.Led
