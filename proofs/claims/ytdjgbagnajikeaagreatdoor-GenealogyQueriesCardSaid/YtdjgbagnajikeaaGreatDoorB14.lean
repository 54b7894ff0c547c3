/-
  Finding stocks and pieces.
-/
import Derived.Test.YtdjgbagnajikeaaGreatDoorB13
set_option linter.unusedVariables false
set_option linter.unusedSimpArgs false
set_option maxRecDepth 1000000
set_option maxHeartbeats 8000000
noncomputable section
namespace Go.Proofs.Led
open Go Go.Proofs Go.Ab
theorem cC8(n:Int)(x:Piece):Sp 65 [aZ x, .fp [I n]] (DB (x.id=n)):=by
 refine zsp Tryz.func65 ?_;exact N9
theorem bZ9(n:Int)(x:aN):Sp 67 [aQ x, .fp [I n]] (DB (sid x=n)):=by
 refine zsp Tryz.func67 ?_;have h1:=aE2 x;exact N9
theorem fB2{g:FuncId}{c:List V}{Q:Piece->Prop}(hg:∀m,Sp g (aZ m:: [.fp c]) (DB (Q m)))(l:List Piece)(hl:l.length<=1000000):fnVC T Tryz.prog Tryz.f64 [.sl (l.map aZ), .fn g [.fp c]] (I (fstI Q l)):=by
 have hll:(l.map aZ).length=l.length:=Ae
 repeat' ((conv=>whnf);first|refine zS ?_|fail)
 refine aU (A:=List Piece) (B:=List Piece) (fun D R=>mkSt [(0, .sl (l.map aZ)),(1, .fn g [.fp c]),(7,I l.length),(8,I D.length)] [] [])
  (fun D R=>l=D++R/\∀m∈D,¬Q m) (fun D R=>R.length) [] l ?_ ⟨rfl,Ae⟩ (fun D R hp=>?_)
 ·exact zj
 ·exact GL
theorem dY3{g:FuncId}{c:List V}{Q:Piece->Prop}(hg:∀m,Sp g (aZ m:: [.fp c]) (DB (Q m)))(l:List Piece)(hl:l.length<=1000000):Sp 64 [.sl (l.map aZ), .fn g [.fp c]] (I (fstI Q l)):=zsp Tryz.func64 (fB2 hg l hl)
theorem fA9{g:FuncId}{c:List V}{Q:aN->Prop}(hg:∀m,Sp g (aQ m:: [.fp c]) (DB (Q m)))(l:List aN)(hl:l.length<=1000000):fnVC T Tryz.prog Tryz.f66 [.sl (l.map aQ), .fn g [.fp c]] (I (fstI Q l)):=by
 have hll:(l.map aQ).length=l.length:=Ae
 repeat' ((conv=>whnf);first|refine zS ?_|fail)
 refine aU (A:=List aN) (B:=List aN) (fun D R=>mkSt [(0, .sl (l.map aQ)),(1, .fn g [.fp c]),(7,I l.length),(8,I D.length)] [] [])
  (fun D R=>l=D++R/\∀m∈D,¬Q m) (fun D R=>R.length) [] l ?_ ⟨rfl,Ae⟩ (fun D R hp=>?_)
 ·exact zj
 ·exact GL
theorem eH2{g:FuncId}{c:List V}{Q:aN->Prop}(hg:∀m,Sp g (aQ m:: [.fp c]) (DB (Q m)))(l:List aN)(hl:l.length<=1000000):Sp 66 [.sl (l.map aQ), .fn g [.fp c]] (I (fstI Q l)):=zsp Tryz.func66 (fA9 hg l hl)
def piece0:Piece:=⟨0,0,aI,aI,aI,0,false,0,aI⟩
def bF5(s:aJ)(n:Int):aN:=(s.stocks[fst (fun x=>sid x=n) s.stocks]?).getD wS
def bF0(s:aJ)(n:Int):Piece:=(s.pieces[fst (fun x=>x.id=n) s.pieces]?).getD piece0
theorem eD1{α:Type}{Q:α->Prop}{l:List α}:fst Q l<l.length↔∃m∈l,Q m:=by
 by_cases h:fst Q l<l.length
 ·refine⟨fun _=>?_,fun _=>h⟩
  apply Classical.byContradiction;intro hn;exact iO.2 (fun m hm hq=>hn ⟨m,hm,hq⟩) h
 ·refine⟨fun q=>absurd q h,fun⟨m,hm,hq⟩=>absurd hq (iO.1 h m hm)⟩
theorem bH9(s:aJ)(n:Int)(hl:s.stocks.length<=1000000):Sp 35 [invV s,I n] (.tup [aQ (bF5 s n),DB (∃m∈s.stocks,sid m=n)]):=by
 refine zsp Tryz.func35 ?_;have h1:=eH2 (c:=[I n]) (fun x=>bZ9 n x) s.stocks hl;have hs:bF5 s n=(s.stocks[fst (fun x=>sid x=n) s.stocks]?).getD wS:=rfl
 have hlt:=eD1 (Q:=fun x:aN=>sid x=n) (l:=s.stocks);have hi:fstI (fun x:aN=>sid x=n) s.stocks=if fst (fun x=>sid x=n) s.stocks<s.stocks.length then(fst (fun x=>sid x=n) s.stocks:Int)else-1:=rfl
 generalize fstI (fun x:aN=>sid x=n) s.stocks=z at*;generalize fst (fun x:aN=>sid x=n) s.stocks=k at*;generalize (∃m∈s.stocks,sid m=n)=P at*;have hm:(s.stocks.map aQ).length=s.stocks.length:=Ae
 conv=>whnf
 refine dJ4 Unit (fun _=>mkSt [(2, .box 2 0),(3, .fp [I n]),(4, .box 4 0),(5,B false)] [(2,invC s),(4,dA5)] []) (fun _=>True) ?_ ?_
 ·exact H9
 intro _ _;by_cases c:k<s.stocks.length
 ·rw[if_pos c]at hi
  have hP:P:=hlt.1 c;have hg:s.stocks[k]? =some (bF5 s n):=Fq
  exact L8
 ·rw[if_neg c]at hi
  have hP:¬P:=fun h=>c (hlt.2 h);have hg:bF5 s n=wS:=EF
  exact L6
theorem bG3(s:aJ)(n:Int)(hl:s.pieces.length<=1000000):Sp 34 [invV s,I n] (.tup [aZ (bF0 s n),DB (∃m∈s.pieces,m.id=n)]):=by
 refine zsp Tryz.func34 ?_;have h1:=dY3 (c:=[I n]) (fun x=>cC8 n x) s.pieces hl;have hs:bF0 s n=(s.pieces[fst (fun x=>x.id=n) s.pieces]?).getD piece0:=rfl
 have hlt:=eD1 (Q:=fun x:Piece=>x.id=n) (l:=s.pieces);have hi:fstI (fun x:Piece=>x.id=n) s.pieces=if fst (fun x=>x.id=n) s.pieces<s.pieces.length then(fst (fun x=>x.id=n) s.pieces:Int)else-1:=rfl
 generalize fstI (fun x:Piece=>x.id=n) s.pieces=z at*;generalize fst (fun x:Piece=>x.id=n) s.pieces=k at*;generalize (∃m∈s.pieces,m.id=n)=P at*;have hm:(s.pieces.map aZ).length=s.pieces.length:=Ae
 conv=>whnf
 refine dJ4 Unit (fun _=>mkSt [(2, .box 2 0),(3, .fp [I n]),(4, .box 4 0),(5,B false)] [(2,invC s),(4,dZ8 piece0)] []) (fun _=>True) ?_ ?_
 ·exact H9
 intro _ _;by_cases c:k<s.pieces.length
 ·rw[if_pos c]at hi
  have hP:P:=hlt.1 c;have hg:s.pieces[k]? =some (bF0 s n):=Fq
  exact L8
 ·rw[if_neg c]at hi
  have hP:¬P:=fun h=>c (hlt.2 h);have hg:bF0 s n=piece0:=EF
  exact L6
structure Node where
 id:Int
 kind:Int
 parent:Int
 grade:ByteArray
 heat:ByteArray
 part:ByteArray
 size:Int
 gone:Bool
 scrap:Int
def nodeC(x:Node):List V:=[I x.id,I x.kind,I x.parent,S x.grade,S x.heat,S x.part,I x.size,B x.gone,I x.scrap]
def nodeV(x:Node):V:= .agg (nodeC x)
def node0:Node:=⟨0,0,0,aI,aI,aI,0,false,0⟩
def nodeOf(x:aN)(p:Int):Node:=if x.isBar then⟨x.bar.id,2,p,x.bar.grade,x.bar.heat,aI,gG x,false,0⟩else⟨x.sheet.id,1,p,x.sheet.grade,x.sheet.heat,aI,gG x,false,0⟩
def pieceN(p:Piece)(q:Int):Node:=⟨p.id,3,q,p.grade,p.heat,p.part,p.size,false,0⟩
def addN(f:List Node)(n:Node):List Node:=putAt f (bs Node.id f n.id) n
def goneN(x:Node)(sc:Int):Node:={x with gone:=true,scrap:=sc}
def cutsN(f:List Node)(s:aJ)(l:List Made):List Node:=l.foldl (fun f c=>addN f (pieceN (bF0 s c.id) (bF0 s c.id).parent)) f
def restsN(f:List Node)(s:aJ)(n:Int)(l:List Rest):List Node:=l.foldl (fun f r=>addN f (nodeOf (bF5 s r.id) n)) f
def growN(f:List Node)(s:aJ)(e:Event):List Node:=restsN (cutsN f s e.cuts) s e.id e.rests
def goneAt(f:List Node)(i:Nat)(e:Event):List Node:=match f[i]? with
 |some x=>f.set i (goneN x (if e.kind=8 then x.size else e.scrap))
 |none=>f
def followN(f:List Node)(s:aJ)(e:Event):List Node:=
 if e.kind=1 then addN f (nodeOf ⟨false,e.sheet,bar0,aI⟩ 0)
 else if e.kind=2 then addN f (nodeOf ⟨true,dN,e.bar,aI⟩ 0)
 else if e.kind=8\/e.kind=5 then growN (goneAt f (bs Node.id f e.id) e) s e else growN f s e
theorem nodeOf_id(x:aN)(p:Int):(nodeOf x p).id=sid x:=by
 unfold nodeOf sid;split<;>rfl
def newI(s:aJ)(e:Event):List Int:=if e.kind=1 then [e.sheet.id]else if e.kind=2 then [e.bar.id]else e.cuts.map (fun c=>(bF0 s c.id).id)++e.rests.map fun r=>sid (bF5 s r.id)
structure FitN(f:List Node)(s:aJ)(e:Event):Prop where
 so:(f.map Node.id).Pairwise (·<·)
 ln:f.length<=1000000
 ex:(e.kind=8\/e.kind=5)->∃x∈f,x.id=e.id
 nw:∀i∈newI s e,∀x∈f,x.id≠i
 df:(newI s e).Pairwise (·≠·)
def fitAll(s:aJ)(f:List Node):List Event->Prop
 | [] =>True
 |e::l=>(appR s e).2=0->FitN f (appR s e).1 e/\fitAll (appR s e).1 (followN f (appR s e).1 e) l
def buildF(s:aJ)(f:List Node)(i:Int):List Event->List Node×Int×Int
 | [] =>(f,i,0)
 |e::l=>if(appR s e).2=0 then buildF (appR s e).1 (followN f (appR s e).1 e) (i+1) l else(f,i,(appR s e).2)
abbrev SortN(f:List Node):Prop:=(f.map Node.id).Pairwise (·<·)
def getN(f:List Node)(n:Int):Option Node:=f.find? fun x=>decide (x.id=n)
theorem getN_mem{f:List Node}{n:Int}{x:Node}(h:getN f n=some x):x∈f/\x.id=n:=⟨List.mem_of_find?_eq_some h,by have:=List.find?_some h;simpa using this⟩
theorem getN_some{f:List Node}(hs:SortN f){x:Node}(hx:x∈f):getN f x.id=some x:=by
 cases h:getN f x.id with
 |none=>exact absurd (List.find?_eq_none.1 h x hx) Ae
 |some y=>
  obtain⟨h1,h2⟩:=getN_mem h;rw[bB9 hs h1 hx h2]
theorem getN_none{f:List Node}{n:Int}:getN f n=none↔∀x∈f,x.id≠n:=by
 unfold getN;rw[List.find?_eq_none];simp
theorem getN_bs{f:List Node}(hs:SortN f){n:Int}{x:Node}(h:getN f n=some x):f[bs Node.id f n]? =some x:=by
 obtain⟨h1,h2⟩:=getN_mem h;obtain⟨y,q1,q2⟩:=aB8 hs ⟨x,h1,h2⟩;rw[q1,bB9 hs (fC q1) h1 (by rw[q2,h2])]
theorem getN_ex{f:List Node}{n:Int}:(∃x∈f,x.id=n)↔∃x,getN f n=some x:=by
 constructor
 ·rintro⟨x,hx,e⟩
  cases h:getN f n with
  |none=>exact absurd e (getN_none.1 h x hx)
  |some y=>exact⟨y,rfl⟩
 ·rintro⟨x,hx⟩
  exact⟨x,getN_mem hx⟩
def climbR(f:List Node):Nat->Node->Bool
 |0,x=>decide (x.parent=0)
 |k+1,x=>if x.parent=0 then true else match getN f x.parent with
  |some y=>climbR f k y
  |none=>false
def chainR(f:List Node):Nat->Node->List Node
 |0,x=> [x]
 |k+1,x=>if x.parent=0 then [x]else match getN f x.parent with
  |some y=>x::chainR f k y
  |none=> [x]
def ownP(x:Node):Prop:=1<=x.id/\1<=x.kind/\x.kind<=3/\1<=x.size/\0<=x.scrap/\x.scrap<=x.size/\(x.gone=false->x.scrap=0)/\
 (x.kind=3->iM x.part/\x.parent≠0/\x.gone=false)/\(x.kind≠3->x.part=aI)
def linkN(x p:Node):Prop:=p.gone=true/\p.grade=x.grade/\p.heat=x.heat/\(x.kind=3\/x.kind=p.kind)
def ksum(f:List Node)(n:Int):Int:=(f.map fun x=>if x.parent=n then x.size else 0).sum
def parN(f:List Node)(x:Node):Prop:=x.parent≠0->∃p,getN f x.parent=some p/\linkN x p
structure RightF(f:List Node):Prop where
 own:∀x∈f,ownP x
 so:SortN f
 par:∀x∈f,parN f x
 up:∀x∈f,climbR f f.length x=true
 sum:∀g∈f,g.gone=true->ksum f g.id=g.size-g.scrap
theorem chain_mono{f:List Node}:∀ {k:Nat} {x:Node},climbR f k x=true->chainR f (k+1) x=chainR f k x
 |0,x,h=>by
  unfold climbR at h;unfold chainR;rw[if_pos (of_decide_eq_true h)]
 |k+1,x,h=>by
  unfold climbR at h;rw[chainR,chainR];by_cases c:x.parent=0
  ·rw[if_pos c,if_pos c]
  ·rw[if_neg c]at h
   rw[if_neg c,if_neg c]
   cases hg:getN f x.parent with
   |none=>rfl
   |some y=>
    rw[hg]at h;exact congrArg (x::·) (chain_mono h)
theorem chain_len{f:List Node}:∀ {k:Nat} {x:Node},1<=(chainR f k x).length/\(chainR f k x).length<=k+1
 |0,x=>⟨Nat.le_refl _,Nat.le_refl _⟩
 |k+1,x=>by
  unfold chainR;split
  ·exact⟨Nat.le_refl _,Ae⟩
  ·split
   ·have:= @chain_len f k
    rename_i y _;have:=this (x:=y);exact⟨Ae,by rw[List.length_cons];omega⟩
   ·exact⟨Nat.le_refl _,Ae⟩
def chN(f:List Node)(x:Node):List Node:=chainR f f.length x
theorem ch_root{f:List Node}{x:Node}(h0:x.parent=0):chN f x=[x] :=by
 unfold chN
 cases f.length with
 |zero=>rfl
 |succ k=>unfold chainR;rw[if_pos h0]
theorem ch_step{f:List Node}(h:∀x∈f,climbR f f.length x=true){x y:Node}(hx:x∈f)(h0:x.parent≠0)(hy:getN f x.parent=some y):chN f x=x::chN f y:=by
 have hc:=h x hx;have hp:0<f.length:=List.length_pos_of_mem hx
 obtain⟨k,hk⟩:∃k,f.length=k+1:=⟨f.length-1,Aa⟩;unfold chN;rw[hk]at hc⊢;unfold climbR at hc;rw[if_neg h0,hy]at hc;rw[chainR,if_neg h0,hy];exact congrArg (x::·) (chain_mono hc).symm
theorem ch_self{f:List Node}{x:Node}:∃l,chN f x=x::l:=IV
theorem ch_le{f:List Node}{x:Node}:(chN f x).length<=f.length+1:=chain_len.2
section
variable{f:List Node}(h:RightF f)
include h
theorem par_get{x:Node}(hx:x∈f)(h0:x.parent≠0):∃y,getN f x.parent=some y/\y∈f/\y.id=x.parent/\linkN x y/\chN f x=x::chN f y:=by
 obtain⟨y,hy,hl⟩:=h.par x hx h0;obtain⟨h1,h2⟩:=getN_mem hy;exact⟨y,hy,h1,h2,hl,ch_step h.up hx h0 hy⟩
theorem ch_in:∀(n:Nat) {x y:Node},x∈f->(chN f x).length<=n->y∈chN f x->y∈f/\(chN f y).length<=(chN f x).length
 |0,x,y,hx,hn,hy=>by
  obtain⟨l,e⟩:=ch_self (f:=f) (x:=x);rw[e]at hn;simp at hn
 |n+1,x,y,hx,hn,hy=>by
  by_cases h0:x.parent=0
  ·rw[ch_root h0]at hy
   rw[List.mem_singleton.1 hy];exact⟨hx,Nat.le_refl _⟩
  ·obtain⟨p,q1,q2,q3,q4,q5⟩:=par_get h hx h0
   rw[q5]at hy hn⊢;rcases List.mem_cons.1 hy with rfl|hy
   ·exact⟨hx,by rw[q5];exact Nat.le_refl _⟩
   ·simp only[List.length_cons]at hn⊢
    obtain⟨r1,r2⟩:=ch_in n q2 Aa hy;exact⟨r1,Aa⟩
theorem ch_child{x p:Node}(hx:x∈f)(hp:p∈f)(e:x.parent=p.id):chN f x=x::chN f p:=by
 have h1:=(h.own p hp).1;obtain⟨y,q1,q2,q3,q4,q5⟩:=par_get h hx Aa;rw[q5,bB9 h.so q2 hp Aa]
end
def underN(f:List Node)(x:Node)(n:Int):Prop:=∃y∈chN f x,y.id=n
open Classical in
def ind(p:Prop):Int:=if p then 1 else 0
theorem ind_t{p:Prop}(h:p):ind p=1:=if_pos h
theorem ind_f{p:Prop}(h:¬p):ind p=0:=if_neg h
def kidsN(f:List Node)(n:Int):List Node:=f.filter fun x=>decide (x.parent=n)
theorem mem_kids{f:List Node}{n:Int}{x:Node}:x∈kidsN f n↔x∈f/\x.parent=n:=by unfold kidsN;simp
theorem sum_zero{α:Type}{g:α->Int}:∀ {l:List α},(∀x∈l,g x=0)->(l.map g).sum=0
 | [],_=>rfl
 |x::l,h=>by rw[List.map_cons,List.sum_cons,h x (by simp),sum_zero (fun y hy=>h y (by simp[hy]))];rfl
theorem sum_add{α:Type}{g k:α->Int}:∀ {l:List α},(l.map fun x=>g x+k x).sum=(l.map g).sum+(l.map k).sum
 | [] =>rfl
 |x::l=>by rw[List.map_cons,List.sum_cons,sum_add (l:=l),List.map_cons,List.sum_cons,List.map_cons,List.sum_cons];omega
theorem sum_congr{α:Type}{g k:α->Int}{l:List α}(h:∀x∈l,g x=k x):(l.map g).sum=(l.map k).sum:=by rw[List.map_congr_left h]
theorem sum_swap{α β:Type}(g:α->β->Int)(m:List β):∀(l:List α),(l.map fun x=>(m.map fun y=>g x y).sum).sum=(m.map fun y=>(l.map fun x=>g x y).sum).sum
 | [] =>by rw[List.map_nil,List.sum_nil];exact(sum_zero (fun y _=>rfl)).symm
 |x::l=>by
  rw[List.map_cons,List.sum_cons,sum_swap g m l,<-sum_add];exact sum_congr (fun y _=>by rw[List.map_cons,List.sum_cons])
theorem sum_one{α:Type}{key:α->Int}:∀ {l:List α},(l.map key).Pairwise (·<·)->∀ {x:α},x∈l->(l.map fun y=>ind (key x=key y)).sum=1
 | [],_,x,h=>Ag
 |y::l,hp,x,hx=>by
  rw[List.map_cons,List.pairwise_cons]at hp;rw[List.map_cons,List.sum_cons];rcases List.mem_cons.1 hx with rfl|hx
  ·rw[ind_t rfl,sum_zero]
   ·rfl
   ·intro z hz
    have:=hp.1 (key z) (List.mem_map_of_mem hz);exact ind_f Aa
  ·have:=hp.1 (key x) (List.mem_map_of_mem hx)
   rw[ind_f Aa,sum_one hp.2 hx];rfl
theorem kids_sorted{f:List Node}(h:SortN f)(n:Int):SortN (kidsN f n):=h.sublist ((List.filter_sublist).map Node.id)
theorem under_split{f:List Node}(h:RightF f){n:Node}(hn:n∈f):∀(k:Nat) {x:Node},x∈f->(chN f x).length<=k->ind (underN f x n.id)=ind (x.id=n.id)+((kidsN f n.id).map fun c=>ind (underN f x c.id)).sum
 |0,x,hx,hk=>by
  obtain⟨l,e⟩:=ch_self (f:=f) (x:=x);rw[e]at hk;simp at hk
 |k+1,x,hx,hk=>by
  have hn1:=(h.own n hn).1;by_cases hxn:x.id=n.id
  ·have e:x=n:=bB9 h.so hx hn hxn
   subst e;rw[ind_t rfl,ind_t (p:=underN f x x.id),sum_zero]
   ·rfl
   ·intro c hc
    obtain⟨c1,c2⟩:=mem_kids.1 hc;refine ind_f ?_;rintro⟨y,hy,e⟩;obtain⟨y1,y2⟩:=ch_in h _ hx (Nat.le_refl _) hy;have:y=c:=bB9 h.so y1 c1 e;subst this;rw[ch_child h c1 hx c2,List.length_cons]at y2;omega
   ·obtain⟨l,e⟩:=ch_self (f:=f) (x:=x)
    exact⟨x,Gv,rfl⟩
  ·rw[ind_f hxn,Int.zero_add]
   by_cases h0:x.parent=0
   ·have er:=ch_root (f:=f) h0
    rw[ind_f,sum_zero]
    ·intro c hc
     obtain⟨c1,c2⟩:=mem_kids.1 hc;refine ind_f ?_;rintro⟨y,hy,e⟩;rw[er]at hy;rw[List.mem_singleton.1 hy]at e;have:x=c:=bB9 h.so hx c1 e;subst this;omega
    ·rintro⟨y,hy,e⟩
     rw[er]at hy;rw[List.mem_singleton.1 hy]at e;exact hxn e
   ·obtain⟨p,q1,q2,q3,q4,q5⟩:=par_get h hx h0
    have hlp:(chN f p).length<=k:=by rw[q5,List.length_cons]at hk;omega
    have ih:=under_split h hn k q2 hlp
    have e1:underN f x n.id↔underN f p n.id:=by
     unfold underN;rw[q5];constructor
     ·rintro⟨y,hy,e⟩
      rcases List.mem_cons.1 hy with rfl|hy
      ·exact absurd e hxn
      ·exact⟨y,hy,e⟩
     ·rintro⟨y,hy,e⟩
      exact⟨y,List.mem_cons_of_mem _ hy,e⟩
    have e2:∀c∈kidsN f n.id,ind (underN f x c.id)=ind (x.id=c.id)+ind (underN f p c.id):=by
     intro c hc;obtain⟨c1,c2⟩:=mem_kids.1 hc;by_cases hxc:x.id=c.id
     ·have:x=c:=bB9 h.so hx c1 hxc
      subst this;rw[ind_t rfl,ind_t,ind_f]
      ·rfl
      ·rintro⟨y,hy,e⟩
       obtain⟨y1,y2⟩:=ch_in h _ q2 (Nat.le_refl _) hy;have:y=x:=bB9 h.so y1 hx e;subst this;rw[q5,List.length_cons]at y2;omega
      ·obtain⟨l,e⟩:=ch_self (f:=f) (x:=x)
       exact⟨x,Gv,rfl⟩
     ·rw[ind_f hxc,Int.zero_add]
      have:underN f x c.id↔underN f p c.id:=by
       unfold underN;rw[q5];constructor
       ·rintro⟨y,hy,e⟩
        rcases List.mem_cons.1 hy with rfl|hy
        ·exact absurd e hxc
        ·exact⟨y,hy,e⟩
       ·rintro⟨y,hy,e⟩
        exact⟨y,List.mem_cons_of_mem _ hy,e⟩
      rw[show underN f x c.id=underN f p c.id from propext this]
    rw[show underN f x n.id=underN f p n.id from propext e1,ih,sum_congr e2,sum_add];congr 1;by_cases hpn:p.id=n.id
    ·rw[ind_t hpn,sum_one (key:=Node.id) (kids_sorted h.so n.id) (mem_kids.2 ⟨hx,Aa⟩)]
    ·rw[ind_f hpn,sum_zero]
     intro c hc;obtain⟨c1,c2⟩:=mem_kids.1 hc;refine ind_f fun e=>hpn ?_;have:x=c:=bB9 h.so hx c1 e
     subst this;omega
def allU(f:List Node)(g:Node->Int)(n:Int):Int:=(f.map fun x=>ind (underN f x n)*g x).sum
theorem allU_step{f:List Node}(h:RightF f)(g:Node->Int){n:Node}(hn:n∈f):allU f g n.id=g n+((kidsN f n.id).map fun c=>allU f g c.id).sum:=by
 unfold allU;rw[<-sum_swap (fun x c=>ind (underN f x c.id)*g x) (kidsN f n.id) f]
 have e:∀x∈f,ind (underN f x n.id)*g x=ind (x.id=n.id)*g x+((kidsN f n.id).map fun c=>ind (underN f x c.id)*g x).sum:=by
  intro x hx;rw[under_split h hn _ hx (Nat.le_refl _),Int.add_mul];congr 1;generalize kidsN f n.id=l
  induction l with
  |nil=>simp
  |cons c l ih=>rw[List.map_cons,List.sum_cons,Int.add_mul,ih,List.map_cons,List.sum_cons]
 rw[sum_congr e,sum_add];congr 1
 have e2:∀x∈f,ind (x.id=n.id)*g x=ind (n.id=x.id)*g n:=by
  intro x hx;by_cases c:x.id=n.id
  ·rw[ind_t c,ind_t c.symm,bB9 h.so hx hn c]
  ·rw[ind_f c,ind_f (fun q=>c q.symm)];simp
 rw[sum_congr e2];have e3:=sum_one (key:=Node.id) h.so hn
 have e4:∀l:List Node,(l.map fun x=>ind (n.id=x.id)*g n).sum=(l.map fun x=>ind (n.id=x.id)).sum*g n:=by
  intro l
  induction l with
  |nil=>simp
  |cons c l ih=>rw[List.map_cons,List.sum_cons,ih,List.map_cons,List.sum_cons,Int.add_mul]
 rw[e4,e3,Int.one_mul]
def visitR(f:List Node)(g:Node->Int):Nat->Node->Int
 |0,n=>g n
 |k+1,n=>g n+((kidsN f n.id).map fun c=>visitR f g k c).sum
theorem visit_all{f:List Node}(h:RightF f)(g:Node->Int):∀(k:Nat) {n:Node},n∈f->f.length+1<=k+(chN f n).length->visitR f g k n=allU f g n.id
 |0,n,hn,hk=>by
  rw[allU_step h g hn]
  have:kidsN f n.id=[] :=by
   cases hc:kidsN f n.id with
   |nil=>rfl
   |cons c l=>
    obtain⟨c1,c2⟩:=mem_kids.1 (show c∈kidsN f n.id by rw[hc];simp)
    have:=ch_le (f:=f) (x:=c);exact OB
  rw[this];show g n=g n+0;omega
 |k+1,n,hn,hk=>by
  rw[allU_step h g hn];unfold visitR;congr 1;refine sum_congr fun c hc=>?_;obtain⟨c1,c2⟩:=mem_kids.1 hc;refine visit_all h g k c1 ?_;rw[ch_child h c1 hn c2,List.length_cons];omega
end Go.Proofs.Led
namespace Go.Proofs.Led
open Go Go.Proofs Go.Ab Go.RowKit Go.Lib
theorem elG:ElT 25 42 9 96:=⟨Tryz.underlying25,of_decide_eq_true Ac,Ac,Ac,Ah,Ah⟩
theorem ovG:OvT 174 42:=fun w b vb ob lb cb vc cur vcur hvb hb hv hne=>by
 rw[run_callFunc_extern Tryz.func174 Ac Ac Ac (e:=Extern.SlicesOverlaps.overlaps #[25,25] #[4]) Ac,
  Lib.run_overlaps_apart w 25 4 42 Tryz.underlying25 9 Tryz.sizeOf42 ⟨vb,0,none⟩ ⟨b,ob,none⟩ 1 vc lb cb hvb 42 42 vcur.size cur.size EI EJ hne BG BG]
 rfl
theorem insG_all:InsShift 127 42 9/\InsEnd 127 42 9/\InsEndG 127 25 42/\InsGrow 127 25 42 9:=by
 have el:=elG;have ov:=ovG
 have fF:=Tryz.func127;have nF:=Tryz.ntmps127
 have zE:=Tryz.sizeOf42;have uS:=run_underlying Tryz.underlying25
 have t3:=Tryz.underlying3;have t4:=Tryz.underlying4;have u3:=run_underlying Tryz.underlying3;have u4:=run_underlying Tryz.underlying4
 have mixed:=mixed;refine⟨?_,?_,?_,?_⟩
 ·intro b n c i vb vc cur vcur w hi hroom hc63 hvb hb hv hbs hvs h1 h2
  have hov:=fun ob lb cb=>ov w b vb ob lb cb vc cur vcur hvb hb hv Aa;obtain⟨X1,hX1,hcp1,hcp2⟩:=el.shift (b:=b) (vb:=vb) (vc:=vc) hi hroom hbs hvs h1 h2;rw[<-hX1];clear hX1;have hw1:IntKind.i64.wrap ((i:Int)+1)=(i:Int)+1:=Am
  have hw2:IntKind.i64.wrap ((n:Int)+1)=(n:Int)+1:=Am;have hz1:¬((i:Int)=(n:Int)):=Aa
  have hb1:(0:Int)<=(i:Int)+1:=Aa;have htn:((i:Int)+1).toNat=i+1:=Aa
  have htn2:((n:Int)+1).toNat=n+1:=Aa;have hin:i<=n:=Aa
  have hb2:¬(c=i+1):=Aa;have hb3:(i:Int)<=(n:Int)+1:=Aa
  have hb4:¬(c=i):=Aa;have hb5:¬((c:Int)< (n:Int)+1):=Aa
  go_enter fF,nF
  go_wp2_with (simp only[hov])
  have hA1:=hcp1 w.drew _ _ (n-i) (n+1-i) 3 (c- (i+1)) (c-i) hb rfl rfl BR
  try simp only[Nat.mul_one]at hA1
  go_region_law_o (refine step_copy_runI rfl _ _ _ _ rfl _ _ Aw Aw hA1 ?_)
  exact KU
 ·intro b n c vb vc cur vcur w hroom hc63 hb hv hbs hvs h2
  exact Lc
 ·intro base n c c' vb vc X w hnc hroom hbig hn hA
  go_enter fF,nF
  cases base with
  |none=>exact Ht
  |some a=>exact Hw
 ·intro b n c c' i vb vc cur vcur R w hi hnc hroom hbig hge hle hb hv hbs hRs hvs h1 h2 hrz
  have hbw:b<w.heap.size:=(Array.getElem?_eq_some_iff.1 hb).1;have hvw:vb<w.heap.size:=(Array.getElem?_eq_some_iff.1 hv).1
  obtain⟨X1,hX1,hcpA,hcpB⟩:=el.grow (b:=b) (vb:=vb) (vc:=vc) (N:=w.heap.size) hi hnc hge hbs hRs hvs h1 h2;obtain⟨hN,hO⟩:=el.nw w R;have hA:=hcpA _ _ (n+1-i) 3 (c'-i) hN E8 rfl Aa;have hB:=hcpB ((World.setRow _ w.heap.size X1).drew) _ _ (n-i) (n-i) 3 (c'- (i+1)) (c-i) (setRow_heap _ w.heap.size R X1 _ _ hN) ((setRow_other _ w.heap.size b X1 Aa).trans EK) rfl rfl (Nat.min_self _)
  rw[<-hX1];clear hX1 hcpA hcpB hN hO;have hw1:IntKind.i64.wrap ((i:Int)+1)=(i:Int)+1:=Am;have hw2:IntKind.i64.wrap ((n:Int)+1)=(n:Int)+1:=Am
  have hw3:IntKind.i64.wrap ((n:Int)+1- (i:Int))=(n:Int)+1- (i:Int):=Am;have hz1:¬((i:Int)=(n:Int)):=Aa
  have hb1:(0:Int)<=(i:Int)+1:=Aa;have htn:((i:Int)+1).toNat=i+1:=Aa
  have hin:i<=n:=Aa;have hb2:¬(c'=i+1):=Aa
  have hb3:(i:Int)<=(n:Int)+1:=Aa;have hb4:¬(c=i):=Aa
  have hb5:(c:Int)< (n:Int)+1:=Aa;have hb6:¬(c'=i):=Aa
  have hb7:(i:Int)<=(c:Int):=Aa;have hle63:c'<=9223372036854775807:=DC
  try simp only[Nat.mul_one]at hA hB
  go_enter fF,nF
  go_wp2_with (first|simp only[hA,Result.andThen_ok] |(at_builtin;refine Lib.wpList_append_run _ rfl _ _ _ _ rfl _ _ rfl rfl _ _ (hrz _) ?_))
  go_region_law_o (refine step_copy_runI rfl _ _ _ _ rfl _ _ Aw Aw hB ?_)
  go_wp2
  go_ret
  first|exact⟨rfl,rfl⟩|exact⟨rfl,AV⟩
theorem insG_spec(l:List V)(x:V)(i:Nat)(hi:i<=l.length)(hl:l.length<=1000000000):Sp 127 [.own 42 l,I i, .own 42 [x]] (.own 42 (l.take i++x::l.drop i)):=
 ins_gen elG Ac insG_all.1 insG_all.2.1 insG_all.2.2.1 insG_all.2.2.2 l x i hi hl
end Go.Proofs.Led
namespace Go.Proofs.Led
open Go Go.Proofs Go.Ab
theorem ndB_vc{g:FuncId}{t:Int}(hg:∀m:Node,Sp g [nodeV m,I t] (I (cmpI (Node.id m) t)))(l:List Node)(hl:l.length<=1000000)(hs:(l.map Node.id).Pairwise (·<·)):fnVC T Tryz.prog Tryz.f100 [.sl (l.map nodeV),I t, .fn g []] (.tup [I (bs Node.id l t),DB (∃m∈l,Node.id m=t)]):=by
 have hll:(l.map nodeV).length=l.length:=Ae
 repeat' ((conv=>whnf);first|refine zS ?_|refine zm (fun x hx=>?_)|refine zT ?_ ?_<;>intro _|fail)
 refine aU (A:=Nat) (B:=Nat) (fun i j=>mkSt [(0, .sl (l.map nodeV)),(1,I t),(2, .fn g []),(8,I l.length),(9,I i),(10,I j)] [] []) (fun i j=>i<=j/\j<=l.length/\(∀k m,k<i->l[k]? =some m->Node.id m<t)/\∀k m,j<=k->l[k]? =some m->t<=Node.id m) (fun i j=>j-i) 0 l.length ?_ ⟨Aa,Aa,fun k m hk=>absurd hk Aa,fun k m hk hm=>BK⟩ (fun i j hp=>?_)
 ·exact zj
 obtain⟨hij,hj,h1,h2⟩:=hp;have hij':i<=l.length:=Aa;by_cases hlt0:i<j
 ·have hb:(i+j)/2<l.length:=by omega
  have hm2:=List.getElem?_eq_getElem hb;generalize l[(i+j)/2] =m at hm2;have g1:=hg m
  have hlt2:(i+j)/2<j:=Aa
  repeat' ((conv=>whnf);first|(exfalso;omega)|refine fK (k:= .u64) (n:=(i:Int)+(j:Int)) (m:=(i:Int)+(j:Int)) (cD4 Aa) ?_|refine fK (k:= .i64) (n:=shrI .u64 ((i:Int)+(j:Int)) 1) (m:=(((i+j)/2:Nat):Int)) (bF1 Aa) ?_|refine zS ?_|refine zm (fun x hx=>?_)|refine zT ?_ ?_<;>intro _|fail)
  all_goals conv=>whnf
  ·have hc:=cK6.1 Ad
   refine⟨((i+j)/2+1,j),?_,⟨Aa,Aa,fun k y hk hy=>?_,h2⟩,Aa⟩
   ·exact zj
   ·rcases Nat.lt_or_ge k ((i+j)/2)with h|h
    ·exact Int.lt_trans (sorted_at hs hy hm2 h) hc
    ·exact H7
  ·have hc:=aU8.1 Ad
   refine⟨(i,(i+j)/2),?_,⟨Aa,Aa,h1,fun k y hk hy=>?_⟩,Aa⟩
   ·exact zj
   ·rcases Nat.lt_or_ge ((i+j)/2) k with h|h
    ·exact Int.le_of_lt (Int.lt_of_le_of_lt hc (sorted_at hs hm2 hy h))
    ·exact H7
 ·have e:j=i:=by omega
  subst e;have hbs:=dC0 hij' h1 (fun m hm=>h2 j m (Nat.le_refl _) hm);have hex:=eC8 hs h1 (fun m hm=>h2 j m (Nat.le_refl _) hm)
  rw[hbs];generalize (∃m∈l,Node.id m=t)=P at*;by_cases hjn:j<l.length
  ·have hm2:=List.getElem?_eq_getElem hjn
   generalize l[j] =m at hm2;have g1:=hg m;have hP:P↔Node.id m=t:=hex.1 m hm2
   have eP:DB P=V.lit (.bool (eqB (cmpI (Node.id m) t) 0)):=congrArg (fun b=>V.lit (.bool b)) (sK (bP6.trans hP.symm)).symm;rw[eP];exact KP
  ·have hP:¬P:=hex.2 (List.getElem?_eq_none Aa)
   have eP:DB P=V.lit (.bool false):=congrArg (fun b=>V.lit (.bool b)) (dW.2 hP);rw[eP];exact KP
theorem ndB_spec{g:FuncId}{t:Int}(hg:∀m:Node,Sp g [nodeV m,I t] (I (cmpI (Node.id m) t)))(l:List Node)(hl:l.length<=1000000)(hs:(l.map Node.id).Pairwise (·<·)):Sp 100 [.sl (l.map nodeV),I t, .fn g []] (.tup [I (bs Node.id l t),DB (∃m∈l,Node.id m=t)]):=zsp Tryz.func100 (ndB_vc hg l hl hs)
theorem findNF_spec(x:Node)(t:Int):Sp 101 [nodeV x,I t] (I (cmpI x.id t)):=by
 refine zsp Tryz.func101 ?_;have h2:=aB9 x.id t;exact Nl
theorem findN_spec(f:List Node)(n:Int)(hl:f.length<=1000000)(hs:SortN f):Sp 47 [.sl (f.map nodeV),I n] (.tup [I (bs Node.id f n),DB (∃m∈f,m.id=n)]):=by
 refine zsp Tryz.func47 ?_;have h1:=ndB_spec (g:=101) (t:=n) (fun m=>findNF_spec m n) f hl hs;generalize bs Node.id f n=k at*;generalize (∃m∈f,m.id=n)=P at*;exact Nl
theorem putG_spec(l:List Node)(i:Nat)(x:Node)(hi:i<=l.length)(hl:l.length<=1000000000):Sp 127 [.own 42 (l.map nodeV),I i, .own 42 [nodeV x]] (.own 42 ((putAt l i x).map nodeV)):=by
 have h:=insG_spec (l.map nodeV) (nodeV x) i Dk AQ;rw[aR0]at h;exact h
theorem addG_spec(f:List Node)(x:Node)(hl:f.length<=1000000)(hs:SortN f):Sp 83 [.own 42 (f.map nodeV),nodeV x] (.own 42 ((addN f x).map nodeV)):=by
 refine zsp Tryz.func83 ?_;have h1:=findN_spec f x.id hl hs;have h2:=putG_spec f (bs Node.id f x.id) x (bQ8 _ _ _) Aa
 unfold addN;generalize bs Node.id f x.id=k at*;generalize (∃m∈f,m.id=x.id)=P at*
 repeat' ((conv=>whnf);first|(refine aS5 (h1) true ?_ rfl ?_;focus ((repeat' (first|exact trivial|refine And.intro ?_ ?_|with_reducible rfl|exact(fun h=>Ag)|exact rfl));done))|refine zh (xX h2) [] ?_|refine zS ?_|refine zm (fun x hx=>?_)|refine zT ?_ ?_<;>intro _|fail)
 all_goals exact zE
theorem stockNode_spec(x:aN)(p:Int)(hx:eY x):Sp 84 [aQ x,I p] (nodeV (nodeOf x p)):=by
 refine zsp Tryz.func84 ?_;have h1:=vF x hx;unfold nodeOf;generalize gG x=z at*;obtain⟨b,s,br,q⟩:=x;cases b;all_goals simp only[Bool.false_eq_true,if_false,if_true]
 ·repeat' ((conv=>whnf);first|(exfalso;contradiction)|refine eZ1 AA ?_|refine zS ?_|refine zm (fun x hx=>?_)|refine zT ?_ ?_<;>intro _|fail)
  all_goals exact zE
 ·repeat' ((conv=>whnf);first|(exfalso;contradiction)|refine cC0 [(2,2),(5,5),(21,2),(22,2),(24,2),(25,2),(27,2),(28,2),(30,5),(31,5),(32,5),(33,5)] Aq AA ?_|refine eZ1 AA ?_|refine zS ?_|refine zm (fun x hx=>?_)|refine zT ?_ ?_<;>intro _|fail)
  all_goals exact zE
theorem rightN_spec(x:Node):Sp 48 [nodeV x] (DB (ownP x)):=by
 refine zsp Tryz.func48 ?_;have h1:=aG6 x.part;have hr:ownP x↔1<=x.id/\1<=x.kind/\x.kind<=3/\1<=x.size/\0<=x.scrap/\x.scrap<=x.size/\(x.gone=false->x.scrap=0)/\(x.kind=3->iM x.part/\x.parent≠0/\x.gone=false)/\(x.kind≠3->x.part=aI):=Iff.rfl
 generalize ownP x=P at*;generalize iM x.part=q at*;obtain⟨i,k,p,g,h,t,z,o,c⟩:=x;simp only at hr;cases o;all_goals simp only[reduceCtorEq,false_implies,true_implies,and_false,and_true,implies_true,true_and]at hr
 all_goals repeat' ((conv=>whnf);first|(exfalso;contradiction)|(exfalso;omega)|refine zS ?_|refine zm (fun x hx=>?_)|refine zT ?_ ?_<;>intro _|fail)
 all_goals conv=>whnf
 all_goals first
  |(refine aA (aC fun hh=>?_);replace hr:=hr.1 hh;simp only at*;omega)
  |(refine aA (aC fun hh=>?_);replace hr:=hr.1 hh;simp only at*;exact absurd (hr.2.2.2.2.2.2.2.1 Aa).1 Ad)
  |(refine aA (aC fun hh=>?_);replace hr:=hr.1 hh;simp only at*;exact absurd Ad (hr.2.2.2.2.2.2.2.1 Aa).2)
  |(refine aA (aC fun hh=>?_);replace hr:=hr.1 hh;simp only at*;exact absurd Ad hr.2.2.2.2.2.2.1)
  |(refine aA (fE (hr.2 ?_));simp only at*;exact⟨Aa,Aa,Aa,Aa,Aa,Aa,Aa,fun _=>⟨Ad,Aa⟩,fun q=>absurd Ad q⟩)
  |(refine aA (qV ?_);simp only at*;exact⟨fun q=>hr.2 ⟨Aa,Aa,Aa,Aa,Aa,Aa,Aa,fun q=>absurd q Ad,fun _=>q⟩,fun q=>(hr.1 q).2.2.2.2.2.2.2.2 Ad⟩)
  |(refine aA (qV ?_);simp only at*;exact⟨fun q=>hr.2 ⟨Aa,Aa,Aa,Aa,Aa,Aa,fun q=>absurd q Ad,fun _=>q⟩,fun q=>(hr.1 q).2.2.2.2.2.2.2 Ad⟩)
abbrev rtB(f:List Node):List (List V):=[[.sl (f.map nodeV)],[.fn 104 [.box 100000 0, .box 100001 0]]]
theorem climb_none{f:List Node}{k:Nat}{x:Node}(h0:x.parent≠0)(hg:¬∃m∈f,m.id=x.parent):climbR f k x=false:=by
 cases k with
 |zero=>unfold climbR;exact decide_eq_false h0
 |succ k=>
  unfold climbR;rw[if_neg h0]
  cases h:getN f x.parent with
  |none=>rfl
  |some y=>exact absurd ⟨y,getN_mem h⟩ hg
theorem climb_some{f:List Node}{k:Nat}{x y:Node}(h0:x.parent≠0)(hy:getN f x.parent=some y):climbR f (k+1) x=climbR f k y:=by
 rw[climbR,if_neg h0,hy]
theorem climb1_spec(f:List Node)(hl:f.length<=1000000)(hs:SortN f):∀(k:Nat) (x:Node),k<=1000000->SpB 104 [nodeV x,I k, .box 100000 0, .box 100001 0] (rtB f) (V.lit (.bool (climbR f k x))) (rtB f):=by
 intro k
 induction k with
 |zero=>
  intro x hk;refine b_of Tryz.func104 Ac Ac rfl rfl ?_;have h1:=findN_spec f x.parent hl hs;have hr:climbR f 0 x=decide (x.parent=0):=rfl
  generalize bs Node.id f x.parent=j at*;generalize (∃m∈f,m.id=x.parent)=P at*;by_cases h0:x.parent=0
  ·rw[hr,decide_eq_true h0]
   exact LX
  ·rw[hr,decide_eq_false h0]
   exact LP
 |succ k ih=>
  intro x hk;refine b_of Tryz.func104 Ac Ac rfl rfl ?_;have h1:=findN_spec f x.parent hl hs;by_cases h0:x.parent=0
  ·have hr:climbR f (k+1) x=true:=by unfold climbR;rw[if_pos h0]
   rw[hr];exact LX
  by_cases hg:∃m∈f,m.id=x.parent
  ·obtain⟨y,hy⟩:=getN_ex.1 hg
   have hb:=getN_bs hs hy;have hbl:=(List.getElem?_eq_some_iff.1 hb).1
   rw[climb_some h0 hy];have hll:(f.map nodeV).length=f.length:=Ae
   have h3:SpB 104 [nodeV y,I (((k+1:Nat):Int)-1), .box 100000 0, .box 100001 0] (rtB f) (V.lit (.bool (climbR f k y))) (rtB f):=by
    have:=ih y Aa;rwa [show((k+1:Nat):Int)-1=(k:Int) from Aa]
   generalize climbR f k y=b at*;generalize bs Node.id f x.parent=j at*;generalize (∃m∈f,m.id=x.parent)=P at*
   repeat' ((conv=>whnf);first|(exfalso;omega)|(exfalso;contradiction)|refine bW8 [] [(32,[88888])] trivial AA ?_|refine zh (h3) [100000,100001] ?_|refine zS ?_|refine zm (fun x hx=>?_)|refine zT ?_ ?_<;>intro _|fail)
   all_goals conv=>whnf
   all_goals first|exact⟨_,rfl,zc1⟩|exact zc1
  ·rw[climb_none h0 hg]
   generalize bs Node.id f x.parent=j at*;generalize (∃m∈f,m.id=x.parent)=P at*;exact LP
theorem rooted_spec(f:List Node)(x:Node)(hl:f.length<=1000000)(hs:SortN f):Sp 49 [.sl (f.map nodeV),nodeV x] (V.lit (.bool (climbR f f.length x))):=by
 refine zsp Tryz.func49 ?_;have h1:=climb1_spec f hl hs f.length x hl;have hll:(f.map nodeV).length=f.length:=Ae
 generalize climbR f f.length x=b at*;rw[<-hll]at h1
 repeat' ((conv=>whnf);first|refine zh (h1) [2,5] ?_|refine zS ?_|refine zm (fun x hx=>?_)|refine zT ?_ ?_<;>intro _|fail)
 all_goals exact zE
end Go.Proofs.Led
