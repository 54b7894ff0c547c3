/- Lemmas. -/
import Derived.Test.YtggiojoedjeboaaGreatDoorB13
import Derived.Test.YtggiojoedjeboaaGreatDoorB8
import Derived.Shelf.Small.Bits
import Derived.Shelf.Strconv.Itoa0
import Derived.Shelf.Strconv.Itoa1
import Derived.Shelf.LaysM
import Derived.Shelf.Strconv.Itoa2
import Derived.Shelf.Strconv.Itoa3
import Derived.Below
import Derived.Sort.Grow
import Derived.Shelf.Strconv.Itoa4
import Derived.Lib.ItoaLen
import Derived.Lib.Builder
import Derived.Lib.UnsafeStr
import Derived.Shelf.RegionOpenPlain
import Derived.Lib.AppendStr
import Derived.Maps.OwnRows
set_option linter.all false
set_option autoImplicit true
set_option relaxedAutoImplicit true
set_option maxRecDepth 1000000
set_option maxHeartbeats 8000000
noncomputable section
namespace Go.Proofs.Led
open Go Go.Proofs Go.Ab
def ownN(x:Node):Prop:=1<=x.id/\1<=x.kind/\x.kind<=3/\1<=x.size/\x.size<=100000000000000/\0<=x.scrap/\x.scrap<=x.size/\(x.gone=false->x.scrap=0)/\
 (x.kind=3->iM x.part/\x.parent≠0/\x.gone=false)/\(x.kind≠3->x.part=aI)/\0<=x.parent
def rsum(b:Bool)(f:List Node):Int:=(f.map λx=>if x.parent=0/\(x.kind=2↔b=true)then x.size else 0).sum
structure Tree(s:aJ)(f:List Node):Prop where
 ids:f.map Node.id=s.used
 own:∀x∈f,ownN x
 par:∀x∈f,x.parent≠0->∃p∈f,p.id=x.parent/\linkN x p
 sum:∀g∈f,g.gone=true->ksum f g.id=g.size-g.scrap
 rank:∃r:Int->Nat,∀x∈f,r x.id<f.length/\(x.parent≠0->r x.parent<r x.id)
 st:∀x∈f,x.gone=false->x.kind≠3->∃y∈s.stocks,nodeOf y x.parent=x
 pc:∀x∈f,x.kind=3->∃p∈s.pieces,pieceN p p.parent=x
 ts:∀y∈s.stocks,∃p,nodeOf y p∈f
 tp:∀p∈s.pieces,pieceN p p.parent∈f
 rc:∀b,W (rsum b f)=cls b s.received
def tree0:Tree inv0 []where
 ids:=rfl
 own:=Ad
 par:=Ad
 sum:=Ad
 rank:=⟨λ_=>0,Ad⟩
 st:=Ad
 pc:=Ad
 ts:=Ea
 tp:=Ea
 rc:=λb=>by cases b<;>decide
def ksum_put f i x n:ksum (putAt f i x) n=ksum f n+if x.parent=n then x.size else 0:=bU2 _ _ _ _
theorem ksum_fold n:∀ xs f,ksum (xs.foldl addN f) n=ksum f n+ksum xs n
 | [],f=>by show ksum f n=ksum f n+0;omega
 |x::xs,f=>by
  rw[RG,ksum_fold n xs,show ksum (addN f x) n=_ from ksum_put _ _ _ _,show ksum (x::xs) n=(if x.parent=n then x.size else 0)+ksum xs n from by unfold ksum;simp]
  omega
def ksum_none(h:∀x∈f,x.parent≠n):ksum f n=0:=by
 unfold ksum
 induction f with
 |nil=>rfl
 |cons x f a=>rw[QW,RJ,Q9 (h x Ad),a (λy hy=>h y GN)];rfl
def ksum_all(h:∀x∈f,x.parent=n):ksum f n=(f.map Node.size).sum:=by
 unfold ksum
 induction f with
 |nil=>rfl
 |cons x f a=>rw[QW,RJ,QJ (h x Ad),a (λy hy=>h y GN),QW,RJ]
def rsum_put b f i x:rsum b (putAt f i x)=rsum b f+if x.parent=0/\(x.kind=2↔b=true)then x.size else 0:=bU2 _ _ _ _
def rsum_fold b:∀(xs f:List Node),(∀x∈xs,x.parent≠0)->rsum b (xs.foldl addN f)=rsum b f
 | [],f,_=>rfl
 |x::xs,f,h=>by
  rw[RG,rsum_fold b xs _ (λy hy=>h y GN),show rsum b (addN f x)=_ from rsum_put _ _ _ _,Q9 (λq=>h x Ad q.1),UE]
def tree_sorted(h:Tree s f)(a:Ok s n):(f.map Node.id).Pairwise (·<·):=by
 have:=a.su;rw[List.map_id]at this;rw[h.ids];exact this
def mem_id(h:Tree s f)(hx:x∈f):x.id∈s.used:=Gs
def no_kids(h:Tree s f)(d:Ok s n)(a:x∈f)(c:x.gone=false):∀y∈f,y.parent≠x.id:=by
 intro y j e;have i:=(h.own x a).1;let⟨p,g,k,b⟩:=h.par y j Aa;have:p=x:=bB9 (tree_sorted h d) g a Aa
 subst this;exact Bool.noConfusion (c.symm.trans b.1)
def fresh_node(h:Tree s f)(hi:i∉s.used)(a:x∈f):x.id≠i:=λe=>hi (by rw[<-e];exact mem_id h a)
def par_used(h:Tree s f)(c:x∈f)(a:x.parent≠0):x.parent∈s.used:=by
 let⟨p,b,e,_⟩:=h.par x c a;rw[<-e];exact mem_id h b
def tree_recv(h:Tree s f)(L:Ok s n)(C:sid x∉s.used)(F:1<=sid x)(B:1<=gG x/\gG x<=100000000000000):Tree (aX7 s x) (addN f (nodeOf x 0)):=by
 let⟨D,w,m,E,v⟩:=nodeOf_gone x 0;have A:=nodeOf_id x 0;have gk:=nodeOf_kind x 0
 have K:(nodeOf x 0).kind=1\/(nodeOf x 0).kind=2:=Ib;have c:∀ {y},y∈addN f (nodeOf x 0)↔y=nodeOf x 0\/y∈f:=fH
 have u:ownN (nodeOf x 0):=by
  refine⟨by rw[A];exact F,Aa,Aa,by rw[v];exact B.1,by rw[v];exact B.2,by rw[w];exact Td 0,by rw[w,v];omega,λ_=>w,λe=>Aa,λ_=>E,by rw[m];exact Td 0⟩
 have q:(addN f (nodeOf x 0)).length=f.length+1:=mQ;refine⟨?_,?_,?_,?_,?_,?_,?_,?_,?_,?_⟩
 ·rw[addN_ids,h.ids,A];rfl
 ·intro y a
  rcases c.1 a with rfl|a
  ·exact u
  ·exact h.own y a
 ·intro y a d
  rcases c.1 a with rfl|a
  ·exact absurd m d
  ·let⟨p,l,e⟩:=h.par y a d
   exact⟨p,c.2 (.inr l),e⟩
 ·intro g o j
  rcases c.1 o with rfl|o
  ·rw[D]at j;cases j
  ·have:=(h.own g o).1
   rw[show ksum (addN f (nodeOf x 0)) g.id=_ from ksum_put _ _ _ _,m,Q9 Aa,UE];exact h.sum g o j
 ·let⟨r,G⟩:=h.rank
  refine⟨λi=>if i=sid x then f.length else r i,λy a=>?_⟩
  rw[q];rcases c.1 a with rfl|a
  ·rw[A]
   exact⟨Ad,λd=>absurd m d⟩
  ·have t:=fresh_node h C a
   let⟨M,I⟩:=G y a;refine⟨by simp[Q9 t];omega,λd=>?_⟩
   have l:y.parent≠sid x:=λe=>C (by rw[<-e];exact par_used h a d)
   simp[Q9 t,Q9 l];exact I d
 ·intro y a o k
  rcases c.1 a with rfl|a
  ·exact⟨x,fH.2 (.inl rfl),by rw[m]⟩
  ·let⟨z,H,e⟩:=h.st y a o k
   exact⟨z,fH.2 (.inr H),e⟩
 ·intro y a k
  rcases c.1 a with rfl|a
  ·omega
  ·exact h.pc y a k
 ·intro y a
  rcases fH.1 a with rfl|a
  ·exact⟨0,c.2 (.inl rfl)⟩
  ·let⟨p,l⟩:=h.ts y a
   exact⟨p,c.2 (.inr l)⟩
 ·exact λp l=>c.2 (.inr (h.tp p l))
 ·intro b
  show W (rsum b (addN f (nodeOf x 0)))=cls b (plus x.isBar s.received (gG x));rw[show rsum b (addN f (nodeOf x 0))=_ from rsum_put _ _ _ _,rX,<-h.rc b,m,gk,v];cases J:x.isBar<;>cases b<;>simp[bF8]
def tree_set(h:Tree s f)(hm:s.stocks[k]? =some m) p:Tree (setK s k (prog m p)) f where
 ids:=h.ids
 own:=h.own
 par:=h.par
 sum:=h.sum
 rank:=h.rank
 st:=λx hx hg hk=>by
  let⟨y,hy,e⟩:=h.st x hx hg hk;by_cases c:y=m
  ·subst c
   exact⟨prog y p,cB8 hm,e⟩
  ·exact⟨y,bN9 hm hy c,e⟩
 pc:=h.pc
 ts:=λy hy=>by
  rcases mem_set hy with rfl|hy
  ·exact h.ts m (fC hm)
  ·exact h.ts y hy
 tp:=h.tp
 rc:=h.rc
def tree_setP(h:Tree s f)(hm:s.pieces[k]? =some m) st o:Tree (setP s k (marked m st o)) f where
 ids:=h.ids
 own:=h.own
 par:=h.par
 sum:=h.sum
 rank:=h.rank
 st:=h.st
 pc:=λx hx hk=>by
  let⟨y,hy,e⟩:=h.pc x hx hk;by_cases c:y=m
  ·subst c
   exact⟨marked y st o,cB8 hm,e⟩
  ·exact⟨y,bN9 hm hy c,e⟩
 ts:=h.ts
 tp:=λy hy=>by
  rcases mem_set hy with rfl|hy
  ·exact h.tp m (fC hm)
  ·exact h.tp y hy
 rc:=h.rc
def mem_out{z:b}(a:l[j]? =some z)(h:j≠k):z∈nN l k:=by
 unfold nN;rw[QS];rcases Nat.lt_or_gt_of_ne h with c|c
 ·exact .inl (List.mem_iff_getElem?.2 ⟨j,by rw[TL,QJ c];exact a⟩)
 ·refine .inr (List.mem_iff_getElem?.2 ⟨j- (k+1),?_⟩)
  rw[RX,show k+1+(j- (k+1))=j from Aa];exact a
def ksum_set{sc n}(a:f[i]? =some x):ksum (f.set i (goneN x sc)) n=ksum f n:=dF7 _ a rfl
def rsum_set{sc}(a:f[i]? =some x):rsum b (f.set i (goneN x sc))=rsum b f:=dF7 _ a rfl
def stock_node(h:Tree s f)(d:Ok s n)(g:m∈s.stocks):∃x,f[bs Node.id f (sid m)]? =some x/\x.id=sid m/\x=nodeOf m x.parent:=by
 let⟨p,e⟩:=h.ts m g;have a:∃y∈f,y.id=sid m:=⟨_,e,nodeOf_id m p⟩;let⟨x,b,c⟩:=aB8 (tree_sorted h d) a;refine⟨x,b,c,?_⟩;have:x=nodeOf m p:=bB9 (tree_sorted h d) (fC b) e (by rw[c,nodeOf_id])
 rw[this,(nodeOf_gone m p).2.2.1]
def tree_gone{f xs:List Node}{sc}(h:Tree s f)(R:Ok s n)(Z:s.stocks[k]? =some m)(hi:f[i]? =some x)(hx:x.id=sid m)(L:x=nodeOf m x.parent)
 (hu:s'.used=cO s.used (xs.map Node.id))(hf:dP s.used (xs.map Node.id))(C:∀y∈xs,ownN y/\y.parent=x.id/\linkN y (goneN x sc))(E:0<=sc/\sc=x.size- (xs.map Node.size).sum/\sc<=x.size)
 (T:∀y∈nN s.stocks k,y∈s'.stocks)(K:∀y∈s'.stocks,y∈nN s.stocks k\/∃p,nodeOf y p∈xs)(S:∀p∈s.pieces,p∈s'.pieces)(J:∀p∈s'.pieces,p∈s.pieces\/pieceN p p.parent∈xs)
 (F:∀z∈xs,z.gone=false/\(z.kind≠3->∃y∈s'.stocks,nodeOf y z.parent=z)/\(z.kind=3->∃p∈s'.pieces,pieceN p p.parent=z))(hr:s'.received=s.received):Tree s' (xs.foldl addN (f.set i (goneN x sc))):=by
 have hs:=tree_sorted h R;have hxf:=fC hi
 let⟨g1,g2,g3,X,g5⟩:=nodeOf_gone m x.parent;rw[<-L]at g1 g2 X g5;have gk:=nodeOf_kind m x.parent;rw[<-L]at gk;have B:x.kind≠3:=Ib
 have c:=h.own x hxf;have d:(f.set i (goneN x sc)).map Node.id=f.map Node.id:=bY6 hi rfl
 let⟨W,f2⟩:=qJ.1 hf
 have w:=bE9 (key:=Node.id) (xs:=xs) (l:=f.set i (goneN x sc)) (by rw[d];exact hs) (λz U y a e=>by
  have h1:y.id∈s.used:=by rw[<-h.ids,<-d];exact Rn a
  exact W z.id (Rn U) (by rw[<-e];exact h1)) f2
 have hfold:=λy=>by
  have:=w.2.1 y;rw[set_mem hs hi]at this;rw[or_assoc]at this;exact this
 have I:(xs.foldl addN (f.set i (goneN x sc))).length=f.length+xs.length:=by
  have:=w.2.2;rw[Tv]at this;exact this
 have M:=(hfold _).2 (.inl rfl);have Q:∀y∈xs,y.id∉s.used:=λy a=>W y.id (Rn a)
 have P:=no_kids h R hxf g1;refine⟨?_,?_,?_,?_,?_,?_,?_,?_,?_,?_⟩
 ·rw[fold_ids,d,h.ids,hu]
 ·intro y a
  rcases(hfold y).1 a with rfl|⟨a,_⟩|a
  ·exact⟨c.1,c.2.1,c.2.2.1,c.2.2.2.1,c.2.2.2.2.1,E.1,E.2.2,λq=>EN,λq=>absurd q B,λ_=>X,c.2.2.2.2.2.2.2.2.2.2⟩
  ·exact h.own y a
  ·exact(C y a).1
 ·intro y a t
  rcases(hfold y).1 a with rfl|⟨a,_⟩|a
  ·let⟨p,hp,e1,e2⟩:=h.par x hxf t
   exact P6
  ·let⟨p,hp,e1,e2⟩:=h.par y a t
   exact P6
  ·exact⟨goneN x sc,M,(C y a).2.1.symm,(C y a).2.2⟩
 ·intro g v A
  rw[ksum_fold,ksum_set hi];rcases(hfold g).1 v with rfl|⟨v,u⟩|v
  ·show ksum f x.id+ksum xs x.id=x.size-sc
   rw[ksum_none P,ksum_all (λy a=>(C y a).2.1),E.2.1];omega
  ·rw[ksum_none (f:=xs) (λy a e=>u (by rw[<-e,(C y a).2.1])),UE]
   exact h.sum g v A
  ·rw[(F g v).1]at A;cases A
 ·let⟨r,D⟩:=h.rank
  open Classical in
  refine⟨λi=>if i∈s.used then r i else f.length,λy a=>?_⟩
  rw[I];have G:=mem_id h hxf;rcases(hfold y).1 a with rfl|⟨a,_⟩|a
  ·let⟨q1,V⟩:=D x hxf
   refine⟨by show(if x.id∈s.used then r x.id else f.length)<_;rw[QJ G];omega,λt=>?_⟩
   show(if x.parent∈s.used then r x.parent else f.length)< (if x.id∈s.used then r x.id else f.length)
   rw[QJ G,QJ (par_used h hxf t)];exact V t
  ·let⟨q1,V⟩:=D y a
   have o:=mem_id h a;refine⟨by simp[QJ o];omega,λt=>?_⟩
   simp[QJ o,QJ (par_used h a t)];exact V t
  ·have o:=Q y a
   have aa:=List.length_pos_of_mem a;refine⟨by simp[Q9 o];omega,λt=>?_⟩
   simp[Q9 o,(C y a).2.1,QJ G];exact(D x hxf).1
 ·intro y a v H
  rcases(hfold y).1 a with rfl|⟨a,u⟩|a
  ·cases v
  ·let⟨z,U,e⟩:=h.st y a v H
   refine⟨z,T z ?_,e⟩;let⟨j,N⟩:=Ro U
   have O:j≠k:=λe2=>by
    subst e2;rw[Z]at N;cases N;exact u (by rw[<-e,nodeOf_id,hx])
   exact mem_out N O
  ·exact(F y a).2.1 H
 ·intro y a H
  rcases(hfold y).1 a with rfl|⟨a,u⟩|a
  ·exact absurd H B
  ·let⟨p,hp,e⟩:=h.pc y a H
   exact⟨p,S p hp,e⟩
  ·exact(F y a).2.2 H
 ·intro y a
  rcases K y a with a|⟨q,hq⟩
  ·let⟨p,hp⟩:=h.ts y ((kM _ _).subset a)
   refine⟨p,(hfold _).2 (.inr (.inl ⟨hp,?_⟩))⟩;rw[nodeOf_id,hx];exact out_ne R.ss Z a
  ·exact⟨q,(hfold _).2 (.inr (.inr hq))⟩
 ·intro p hp
  rcases J p hp with hp|hp
  ·have Y:=h.tp p hp
   refine(hfold _).2 (.inr (.inl ⟨Y,λe=>?_⟩));have:pieceN p p.parent=x:=bB9 hs Y hxf e
   exact B (by rw[<-this];rfl)
  ·exact(hfold _).2 (.inr (.inr hp))
 ·intro b
  rw[rsum_fold b xs _ (λy a e=>by have:=(C y a).2.1;have:=c.1;omega),rsum_set hi,hr]
  exact h.rc b
def follow_set(a:e.kind≠1)(b:e.kind≠2)(g:e.kind≠8)(i:e.kind≠5)(c:e.cuts=[])(d:e.rests=[]):followN f s e=f:=by
 unfold followN growN;rw[Q9 a,Q9 b,Q9 Aa,c,d];rfl
def sum_nonneg:∀ {l:List Int},(∀x∈l,0<=x)->0<=l.sum
 | [],_=>Ad
 |x::l,h=>by
  have a:=sum_nonneg (l:=l) (λy hy=>h y GN);have b:=h x Ad
  rw[RJ];omega
def stock_pos(h:stOk x)(b:fT2 x):1<=gG x/\gG x<=100000000000000:=by
 refine⟨?_,(fV0 b).2⟩;unfold gG
 cases a:x.isBar with
 |true=>
  simp[Uk];exact(h.1 a).1.2.1
 |false=>
  simp[Bool.false_eq_true,Uh];exact area_pos (h.2 a).1.2.2.2.1.1
def tree_step(h:Tree s f)(S:Ok s n)(hv:Vs s)(hb:Bd s)(P:Bal s)(ag:Ids s)(hf:iD e)(hs:Step s e s')(T:Ok s' (n+more e))(af:Vs s')(aa:Bd s'):Tree s' (followN f s' e):=by
 cases hs with
 |recv x L hn=>
  let⟨v1,v2⟩:=bH6 L;have H:x∈(aX7 s x).stocks:=fH.2 (.inl rfl);have j:=stock_pos (af x H) (aa x H)
  have O:followN f (aX7 s x) e=addN f (nodeOf x 0):=by
   unfold followN;rcases L with⟨b,B,_⟩|⟨b,B,_⟩
   ·rw[QJ b,B]
   ·rw[Q9 Aa,QJ b,B]
  rw[O];exact tree_recv h S hn v2.1 j
 |setK k m p K t i=>
  let⟨M,N⟩:=noLists hf Aa;rw[follow_set Aa Aa Aa Aa M N];exact tree_set h t p
 |setP k m st o K t ak i=>
  let⟨M,N⟩:=noLists hf Aa;rw[follow_set Aa Aa Aa Aa M N];exact tree_setP h t st o
 |disc k m K t i=>
  let⟨M,N⟩:=noLists hf Aa;let⟨x,b,B,A⟩:=stock_node h S (fC t);rw[i]at b
  have O:followN f (aX4 s k m) e=f.set (bs Node.id f e.id) (goneN x x.size):=by
   unfold followN growN goneAt;rw[Q9 Aa,Q9 Aa,QJ (.inl K),b,M,N];simp[QJ K];rfl
  rw[O];have E:=h.own x (fC b);exact tree_gone (s':=aX4 s k m) (xs:=[]) h S t b B A rfl trivial Ad ⟨by have:=E.2.2.2.1;omega,Ad,Td _⟩ (λy a=>a) (λy a=> .inl a) (λp j=>j) (λp j=> .inl j) Ad rfl
 |cut k m K d ab t i j I hl=>
  let⟨x,b,B,A⟩:=stock_node h S (fC t);rw[i]at b;have w:=aF7 s e k m;have v:=aG4 s e k m
  have R:∀r∈e.rests,dZ m r∈(cut5 s e k m).stocks:=λr hr'=>by
   rw[w];refine aE5.2 (.inr ?_);rw[mV I];exact Rn hr'
  have Q:∀c∈e.cuts,fZ e m c∈(cut5 s e k m).pieces:=λc l=>by
   rw[v];exact aE5.2 (.inr (Rn l))
  have hrid:=λr hr'=>cL1 (tZ I r hr')
  have O:followN f (cut5 s e k m) e=(e.cuts.map (λc=>pieceN (fZ e m c) e.id)++e.rests.map λr=>nodeOf (dZ m r) e.id).foldl addN (f.set (bs Node.id f e.id) (goneN x e.scrap)):=by
   unfold followN growN goneAt;rw[Q9 Aa,Q9 Aa,QJ (.inr K),b,restsN_eq (g:=dZ m) (λr hr'=>find_rest T (R r hr') (hrid r hr')),cutsN_eq (g:=fZ e m) (λc l=>find_piece T (Q c l) rfl),TG];simp[Q9 (show¬e.kind=8 from Aa)];rfl
  rw[O];have D:=P.br m (fC t);have E:=h.own x (fC b)
  have ai:1<=e.id:=by rw[<-i,<-B];exact E.1
  have U:x.id=e.id:=by rw[B,i]
  have ac:=λr (hr':r∈e.rests)=>dB6 (hv m (fC t)) (d.2.1 r hr').1 (tZ I r hr');unfold nJ at hl;have a1:R6 (subL (gG m) (e.cuts.map Made.size)):=bK7 _ _ D
  obtain⟨p1,p2,p3⟩:=bY2 _ _ a1 (λc l=>by
   obtain⟨x,L,rfl⟩:=QZ.1 l;obtain⟨r,b,rfl,A⟩:=yU I L;exact(yP A (cM1 D)).1) (by have:=d.2.2.2.2.1;omega)
  let⟨q1,q2,q3⟩:=bY2 _ _ D (λc l=>by
   obtain⟨x,L,rfl⟩:=QZ.1 l;have:=(d.1 x L).2.2;omega) p2
  have al:x.size=gG m:=by rw[A];exact(nodeOf_gone m _).2.2.2.2
  have u:=nodeOf_grade m x.parent;rw[<-A]at u;have V:=nodeOf_kind m x.parent
  rw[<-A]at V
  have J:((e.cuts.map (λc=>pieceN (fZ e m c) e.id)++e.rests.map λr=>nodeOf (dZ m r) e.id).map Node.size).sum=(e.cuts.map Made.size).sum+((eG m e.rests).map gG).sum:=by
   rw[Rw,List.sum_append,Tq,Tq,mV I,Tq];congr 2;exact SL λr _=>(nodeOf_gone _ _).2.2.2.2
  have G:(e.cuts.map (λc=>pieceN (fZ e m c) e.id)++e.rests.map λr=>nodeOf (dZ m r) e.id).map Node.id=fO e:=KX
  have ad:0<=((eG m e.rests).map gG).sum:=by
   refine sum_nonneg λz F=>?_;obtain⟨y,a,rfl⟩:=QZ.1 F;obtain⟨r,b,rfl,A⟩:=yU I a;exact(yP A (cM1 D)).1
  have ae:0<=(e.cuts.map Made.size).sum:=by
   refine sum_nonneg λz F=>?_;obtain⟨y,a,rfl⟩:=QZ.1 F;have:=(d.1 y a).2.2
   omega
  refine tree_gone (s':=cut5 s e k m) h S t b B A (by rw[G];rfl) (by rw[G];exact ab) (λy a=>?_) ⟨d.2.2.2.2.1,by rw[J];omega,Aa⟩ (λy a=>by rw[w];exact aE5.2 (.inl a)) (λy a=>?_) (λp j=>by rw[v];exact aE5.2 (.inl j)) (λp j=>?_) (λz F=>?_) rfl
  ·rcases QS.1 a with a|a
   ·obtain⟨c,l,rfl⟩:=QZ.1 a
    have C:=d.1 c l;have aj:=q3 c.size (Rn l)
    refine⟨⟨C.1.1,show(1:Int)<=3 from Ai,show(3:Int)<=3 from Ai,C.2.2,by show c.size<=_;have:=E.2.2.2.2.1;omega,Td 0,by show 0<=c.size;have:=C.2.2;omega,λ_=>rfl,λ_=>⟨C.2.1,by show e.id≠0;omega,rfl⟩,λq=>absurd rfl q,by show 0<=e.id;omega⟩,U.symm,rfl,?_,?_, .inl rfl⟩
    ·exact u.1
    ·exact u.2
   ·obtain⟨r,hr',rfl⟩:=QZ.1 a
    let⟨b1,b2,b3,b4,b5,b6,b7⟩:=ac r hr';let⟨g1,W,X,g4,Y⟩:=nodeOf_gone (dZ m r) e.id;have gk:=nodeOf_kind (dZ m r) e.id;have Z:=nodeOf_grade (dZ m r) e.id
    rw[b2]at gk Z;have gp:=stock_pos b1 (fZ0 (hb m (fC t)) (tZ I r hr'));have ah:(nodeOf (dZ m r) e.id).kind=1\/(nodeOf (dZ m r) e.id).kind=2:=Ib
    refine⟨⟨by rw[nodeOf_id,hrid r hr'];exact(d.2.1 r hr').1.1,Aa,Aa,by rw[Y];exact gp.1,by rw[Y];exact gp.2,by rw[W];exact Td 0,by rw[W,Y];omega,λ_=>W,λq=>Aa,λ_=>g4,by rw[X];omega⟩,by rw[X,U],rfl,?_,?_, .inr ?_⟩
    ·rw[Z.1,b4,b6];exact u.1
    ·rw[Z.2,b5,b7];exact u.2
    ·rw[gk];exact V.symm
  ·rw[w]at a
   rcases aE5.1 a with a|a
   ·exact .inl a
   ·obtain⟨r,q1,rfl,q3⟩:=yU I a
    exact .inr ⟨e.id,QS.2 (.inr (Rn q1))⟩
  ·rw[v]at j
   rcases aE5.1 j with j|j
   ·exact .inl j
   ·obtain⟨c,l,rfl⟩:=QZ.1 j
    exact .inr (QS.2 (.inl (Rn l)))
  ·rcases QS.1 F with F|F
   ·obtain⟨c,l,rfl⟩:=QZ.1 F
    exact⟨rfl,λq=>absurd rfl q,λ_=>⟨fZ e m c,Q c l,rfl⟩⟩
   ·obtain⟨r,hr',rfl⟩:=QZ.1 F
    let⟨g1,W,X,g4,Y⟩:=nodeOf_gone (dZ m r) e.id;have gk:=nodeOf_kind (dZ m r) e.id;exact⟨g1,λ_=>⟨dZ m r,R r hr',by rw[X]⟩,λq=>by rw[gk]at q;split at q<;>omega⟩
def aplSt(l:List Event)(s:aJ)(K:List Event)(n:Nat):St:=match K with
 | [] =>mkSt [(0, .sl (l.map aS)),(2,nilV),(3,nilV),(4, .box 4 0),(5,I n)] [(4,invC s)] []
 |d::K=>mkSt [(0, .sl (l.map aS)),(2,nilV),(3, .arr 33 K.length),(4, .box 4 0),(5,I n)] [(4,invC s)] [(33,⟨K.length, .own,52,(d::K).map aS⟩)]
structure ApL(l:List Event)(Pr:aJ->Nat->Prop):Prop where
 p0:Pr inv0 0
 ps:∀(s:aJ) (e:Event) (n:Nat),Pr s n->(appR s e).2=0->Pr (appR s e).1 (n+more e)
 ow:∀e∈l,Sp 17 [aS e] (aS e)
 ap:∀e∈l,∀(s:aJ) (n:Nat),Pr s n->n<=900000->Sp 16 [invV s,aS e] (.tup [invV (appR s e).1,I (appR s e).2])
def applied_spec l(U:l.length<=1000000) w(M:ApL l w)(S:moreL l<=900000):Sp 7 [.sl (l.map aS)] (.own 52 ((okEv inv0 l).map aS)):=by
 refine zsp Tryz.func7 ?_;let⟨F,G,L,J⟩:=M;have W:(l.map aS).length=l.length:=Ad;generalize O:okEv inv0 l=q
 repeat' ((conv=>whnf);first|omega|refine zS ?_|refine zd (λj=>?_) (λj=>?_)|refine zl (λi=>?_) (λi=>?_)|refine zk (λg=>?_) (λg=>?_)|refine ze (λf=>?_) (λf=>?_)|refine zm (λx m=>?_)|refine zb (λb=>?_) (λb=>?_))
 refine loop_4 (A:=aJ) (B:=List Event) (C:=List Event) (D:=List Event) (λs K D R=>aplSt l s K D.length) (λs K D R=>l=D++R/\K++okEv s R=q/\K.length<=D.length/\∃n,w s n/\n+moreL R<=900000) (λs K D R=>R.length) inv0 [] [] l ?_ ⟨rfl,O,QR _,0,F,Aa⟩ (λs K D R hp=>?_)
 ·show Le T _ (mkSt [(0, .sl (l.map aS)),(2,nilV),(3,nilV),(4, .box 4 0),(5,I 0)] [(4,invC inv0)] [])
  exact zj
 obtain⟨hp,hK,o,n,z,N⟩:=hp
 cases R with
 |cons e R=>
  have r:=aO hp;have P:moreL (e::R)=more e+moreL R:=FN
  have Q:=L e Ae;have H:=J e Ae s n z Aa
  have k:(D++[e]).length=D.length+1:=Ad;have E:okEv s (e::R)=if(appR s e).2=0 then e::okEv (appR s e).1 R else okEv s R:=rfl
  rw[E]at hK;by_cases c:(appR s e).2=0
  ·rw[QJ c]at hK
   have t:=G s e n z c;have u:∃v,w (appR s e).1 v/\v+moreL R<=900000:=⟨_,t,Aa⟩
   clear t;rw[c]at H;generalize appR s e=a at*
   cases K with
   |nil=>
    repeat' ((conv=>whnf);first|omega|(exfalso;contradiction)|refine cC0 [(4,4),(6,6)] Af Am ?_|refine gX (QL rfl) (dA rfl) (QL rfl) ?_|refine zS ?_|refine zd (λj=>?_) (λj=>?_)|refine zl (λi=>?_) (λi=>?_)|refine zk (λg=>?_) (λg=>?_)|refine ze (λf=>?_) (λf=>?_)|refine zm (λx m=>?_)|refine zb (λb=>?_) (λb=>?_))
    all_goals conv=>whnf
    refine⟨(a.1,[e],D++[e],R),?_,⟨Ae,hK,Ad,u⟩,Ad⟩;show Le T _ (aplSt l a.1 [e] (D++[e]).length);rw[k];exact zj
   |cons d K=>
    have j:(d::K).length=K.length+1:=rfl
    repeat' ((conv=>whnf);first|omega|(exfalso;contradiction)|refine cC0 [(4,4),(6,6)] Af Am ?_|refine mX (l:=d::K) rfl rfl (.inl rfl) rfl (QL rfl) rfl Aa ?_|refine zS ?_|refine zd (λj=>?_) (λj=>?_)|refine zl (λi=>?_) (λi=>?_)|refine zk (λg=>?_) (λg=>?_)|refine ze (λf=>?_) (λf=>?_)|refine zm (λx m=>?_)|refine zb (λb=>?_) (λb=>?_))
    all_goals conv=>whnf
    refine⟨(a.1,d::(K++[e]),D++[e],R),?_,⟨Ae,by rw[<-hK];simp,by simp at o⊢;omega,u⟩,Ad⟩
    show Le T _ (aplSt l a.1 (d::(K++[e])) (D++[e]).length);rw[k];unfold aplSt;exact Nr
  ·rw[Q9 c]at hK
   have u:∃v,w s v/\v+moreL R<=900000:=⟨n,z,Aa⟩;generalize appR s e=a at*
   cases K with
   |nil=>
    repeat' ((conv=>whnf);first|omega|(exfalso;contradiction)|refine cC0 [(4,4),(6,6)] Af Am ?_|refine zS ?_|refine zd (λj=>?_) (λj=>?_)|refine zl (λi=>?_) (λi=>?_)|refine zk (λg=>?_) (λg=>?_)|refine ze (λf=>?_) (λf=>?_)|refine zm (λx m=>?_)|refine zb (λb=>?_) (λb=>?_))
    all_goals conv=>whnf
    refine⟨(s,[],D++[e],R),?_,⟨Ae,hK,Ad,u⟩,Ad⟩;show Le T _ (aplSt l s [] (D++[e]).length);rw[k];exact zj
   |cons d K=>
    have j:(d::K).length=K.length+1:=rfl
    repeat' ((conv=>whnf);first|omega|(exfalso;contradiction)|refine cC0 [(4,4),(6,6)] Af Am ?_|refine zS ?_|refine zd (λj=>?_) (λj=>?_)|refine zl (λi=>?_) (λi=>?_)|refine zk (λg=>?_) (λg=>?_)|refine ze (λf=>?_) (λf=>?_)|refine zm (λx m=>?_)|refine zb (λb=>?_) (λb=>?_))
    all_goals conv=>whnf
    refine⟨(s,d::K,D++[e],R),?_,⟨Ae,hK,by simp at o⊢;omega,u⟩,Ad⟩
    show Le T _ (aplSt l s (d::K) (D++[e]).length);rw[k];exact zj
 |nil=>
  have r:l.length=D.length:=Ae;have y:K=q:=by rw[<-hK];show K=K++[];simp
  subst y
  cases K with
  |nil=>
   repeat' ((conv=>whnf);first|omega|refine zS ?_|refine zd (λj=>?_) (λj=>?_)|refine zl (λi=>?_) (λi=>?_)|refine zk (λg=>?_) (λg=>?_)|refine ze (λf=>?_) (λf=>?_)|refine zm (λx m=>?_)|refine zb (λb=>?_) (λb=>?_))
   all_goals conv=>whnf
   exact P8
  |cons d K=>
   have j:(d::K).length=K.length+1:=rfl
   repeat' ((conv=>whnf);first|omega|refine zS ?_|refine zd (λj=>?_) (λj=>?_)|refine zl (λi=>?_) (λi=>?_)|refine zk (λg=>?_) (λg=>?_)|refine ze (λf=>?_) (λf=>?_)|refine zm (λx m=>?_)|refine zb (λb=>?_) (λb=>?_))
   all_goals exact zE
def fW0{a:Type}{f:a->V}(hf:∀x,(f x).cells.length=n)(l:List a):∀y∈l.map f,y.cells.length=n:=λy hy=>F5
def stR(s:aJ):List V:=[.own 130 (s.stocks.map aQ), .own 133 (s.pieces.map aZ), .own 3 (s.used.map I),I s.received.1,I s.received.2,I s.scrap.1,I s.scrap.2]
def fV4 s(a:s.stocks.length<=1000000)(b:s.pieces.length<=1000000)(c:s.used.length<=1000000):Sp 46 [invV s] (.tup (.bot::stR s)):=by
 refine zsp Tryz.func46 ?_;have d:(s.stocks.map aQ).length=s.stocks.length:=Ad;have e:(s.pieces.map aZ).length=s.pieces.length:=Ad
 have g:(s.used.map I).length=s.used.length:=Ad
 repeat' ((conv=>whnf);first|refine iH rfl (.inl rfl) rfl (QL rfl) (fW0 (f:=aQ) (n:=14) (λ_=>rfl) s.stocks) (by show 0+(s.stocks.map aQ).length<=1000000000;omega) ?_|refine iH rfl (.inl rfl) rfl (QL rfl) (fW0 (f:=aZ) (n:=9) (λ_=>rfl) s.pieces) (by show 0+(s.pieces.map aZ).length<=1000000000;omega) ?_|refine iH rfl (.inl rfl) rfl (QL rfl) (fW0 (f:=I) (n:=1) (λ_=>rfl) s.used) (by show 0+(s.used.map I).length<=1000000000;omega) ?_|refine gI0 ?_|refine zS ?_|fail)
 all_goals conv=>whnf
 all_goals exact⟨_,_,rfl,rfl,by repeat' (first|exact trivial|refine And.intro ?_ ?_|exact rfl),rfl⟩
open Classical in
def cutW(s:aJ)(e:Event):aJ×Int:=aD6 s e.id λm=>if m.program≠aI then cutQ s (bs sid s.stocks e.id) m e else(inv0,10)
def apSt(s:aJ)(e:Event)(L:List Int)(i:Nat):St:=
 mkSt [(2, .box 2 0),(3, .box 3 0),(4, .box 4 0),(5,I 0),(6, .sl (L.map I)),(7,I i)] [(2,invC s),(3,iJ e),(4,zInv)] []
def fX9 s e r(aa:s.used.length<=900000)(hc:e.cuts.length<=10000)(hr:e.rests.length<=10000)(hF:Sp 44 [aS e] (.lit (.bool true)))
 (i:¬dP s.used (idsR e)->r=(inv0,7))(Y:s.stocks.length<=900000)(Z:s.pieces.length<=900000)(hz:e.kind=1->gV e.sheet.shape)
 (t:e.kind=1->dP s.used (idsR e)->r=(aX7 s ⟨false,e.sheet,bar0,aI⟩,0))
 (d:(s.stocks.map sid).Pairwise (·<·))
 (v:e.kind=3->dP s.used (idsR e)->r=relR s e)
 (w:e.kind=4->dP s.used (idsR e)->r=bP3 s e)
 (M:∀m∈s.stocks,eY m)
 (H:e.kind=8->dP s.used (idsR e)->r=bQ0 s e)
 (C:e.kind=5->dP s.used (idsR e)->r=cutW s e)
 (u:e.kind=2->dP s.used (idsR e)->r=(aX7 s ⟨true,dN,e.bar,aI⟩,0))
 (J:(s.pieces.map Piece.id).Pairwise (·<·))
 (F:e.kind=6->dP s.used (idsR e)->r=nK s e.id 2 aI)
 (G:e.kind=7->dP s.used (idsR e)->r=nK s e.id 3 e.text)(ad:1<=e.kind)(ab:e.kind<=8):fnVC T Tryz.prog Tryz.f16 [invV s,aS e] (.tup [invV r.1,I r.2]):=by
 have g1:=gC6 e hc hr
 have ac:(idsR e).length<=20000:=by
  unfold idsR fO;split
  ·simp
  ·split
   ·simp
   ·simp;omega
 rw[fJ1]at i t u v w C F G H;generalize hL:idsR e=L at*;have ae:(L.map I).length=L.length:=Ad;have ag:(s.used.map I).length=s.used.length:=Ad
 repeat' ((conv=>whnf);first|refine zc hF ?_|refine zc g1 ?_|refine zS ?_|fail)
 refine aU (A:=List Int) (B:=List Int) (λD R=>apSt s e L D.length) (λD R=>L=D++R/\(∀x∈D,x∉s.used)/\D.Pairwise (·≠·)) (λD R=>R.length) [] L ?_ ⟨rfl,Ad, .nil⟩ (λD R hp=>?_)
 ·refine Le.trans (fB (k:=19) rfl (.inl rfl)) ?_
  show Le T _ (apSt s e L 0);exact zj
 obtain⟨hp,hU,hP⟩:=hp
 cases R with
 |cons n R=>
  have K:=aO hp;have V:n∈L:=Ae
  have O:n∈s.used->r=(inv0,7):=λh=>i (λq=>q.1 n V h)
  have P:n∈D->r=(inv0,7):=λh=>i (λq=>by
   have:=q.2;rw[hp,RN]at this;exact this.2.2 n h n Ad rfl)
  repeat' ((conv=>whnf);first|omega|refine zS ?_|refine zl (λhlt=>?_) (λhlt=>?_))
  refine aU (A:=List Int) (B:=List Int) (λE S=>mkSt [(2, .box 2 0),(3, .box 3 0),(4, .box 4 0),(5,I 0),(6, .sl (L.map I)),(7,I D.length),(8,I E.length)] [(2,invC s),(3,iJ e),(4,zInv)] []) (λE S=>s.used=E++S/\n∉E) (λE S=>S.length) [] s.used ?_ ⟨rfl,Ad⟩ (λE S hq=>?_)
  ·exact zj
  obtain⟨hq,hE⟩:=hq
  cases S with
  |cons m S=>
   have g:=aO hq
   repeat' ((conv=>whnf);first|omega|refine eZ1 Am ?_|refine aB (l:=s.used) Aa ?_|refine aB (l:=L) Aa ?_|refine aF (l:=s.used) (A:=E) (x:=m) (B:=S) hq Aa ?_|refine aF (l:=L) (A:=D) (x:=n) (B:=R) hp Aa ?_|refine zS ?_|refine zl (λhlt=>?_) (λhlt=>?_)|refine ze (λheq=>?_) (λheq=>?_))
   all_goals conv=>whnf
   ·rw[O (by rw[hq];simp[heq])]
    all_goals exact zE
   ·exact MW
  |nil=>
   have g:s.used.length=E.length:=Au;have W:n∉s.used:=by rw[hq,Rh];exact hE
   repeat' ((conv=>whnf);first|omega|refine zS ?_|refine zl (λhlt=>?_) (λhlt=>?_))
   refine aU (A:=List Int) (B:=List Int) (λE S=>mkSt [(2, .box 2 0),(3, .box 3 0),(4, .box 4 0),(5,I 0),(6, .sl (L.map I)),(7,I D.length),(9,I E.length)] [(2,invC s),(3,iJ e),(4,zInv)] []) (λE S=>D=E++S/\n∉E) (λE S=>S.length) [] D ?_ ⟨rfl,Ad⟩ (λE S hq=>?_)
   ·exact zj
   obtain⟨hq,hE⟩:=hq
   cases S with
   |cons m S=>
    have g:=aO hq;have X:L=E++m::(S++n::R):=Ii
    repeat' ((conv=>whnf);first|omega|refine eZ1 Am ?_|refine aB (l:=L) Aa ?_|refine aF (l:=L) (A:=D) (x:=n) (B:=R) hp Aa ?_|refine aF (l:=L) (A:=E) (x:=m) (B:=S++n::R) X Aa ?_|refine zS ?_|refine zl (λhlt=>?_) (λhlt=>?_)|refine ze (λheq=>?_) (λheq=>?_))
    all_goals conv=>whnf
    ·rw[P (by rw[hq];simp[heq])]
     all_goals exact zE
    ·exact MW
   |nil=>
    have g:D.length=E.length:=Au;have U:n∉D:=by rw[hq,Rh];exact hE
    repeat' ((conv=>whnf);first|omega|refine zS ?_|refine zl (λhlt=>?_) (λhlt=>?_))
    all_goals conv=>whnf
    refine⟨(D++[n],R),?_,⟨Ae,λx c=>?_,?_⟩,Ad⟩
    ·show Le T _ (apSt s e L (D++[n]).length)
     rw[QN,QU];unfold apSt;exact zj
    ·rcases QS.1 c with c|c
     ·exact hU x c
     ·rw[QT.1 c];exact W
    ·rw[RN]
     exact⟨hP,TY _ _,λx c y hy=>by rw[QT.1 hy];exact λq=>U (q▸c)⟩
 |nil=>
  have K:L.length=D.length:=Ae;have hDe:L=D:=Ae
  replace t:=λh=>t h ⟨Dx,Dy⟩;replace u:=λh=>u h ⟨Dx,Dy⟩;replace v:=λh=>v h ⟨Dx,Dy⟩;replace w:=λh=>w h ⟨Dx,Dy⟩;replace H:=λh=>H h ⟨Dx,Dy⟩;replace C:=λh=>C h ⟨Dx,Dy⟩;replace F:=λh=>F h ⟨Dx,Dy⟩;replace G:=λh=>G h ⟨Dx,Dy⟩;clear i hU hP;have g2:=fV4 s Aa Aa Aa
  by_cases k1:e.kind=1
  ·rw[t k1]
   have g3:=fN8 s ⟨false,e.sheet,bar0,aI⟩ Aa Aa;have g4:=fK5 e.sheet.shape (hz k1)
   repeat' ((conv=>whnf);first|omega|refine eZ1 Am ?_|refine zc g2 ?_|refine zc g3 ?_|refine zc g4 ?_|refine zS ?_|refine zl (λhlt=>?_) (λhlt=>?_)|refine ze (λheq=>?_) (λheq=>?_))
   all_goals exact zE
  by_cases k2:e.kind=2
  ·rw[u k2]
   have g3:=fN8 s ⟨true,dN,e.bar,aI⟩ Aa Aa;exact Na
  have af:(s.stocks.map aQ).length=s.stocks.length:=Ad;have g3:=fZ7 s e.id Aa
  by_cases k3:e.kind=3
  ·rw[v k3]
   by_cases a:∃m∈s.stocks,sid m=e.id;rotate_left
   ·have e1:relR s e=(inv0,8):=by unfold relR aD6;rw[Q9 a]
    have j:aC2 sid s.stocks e.id= -1:=aB5 (λx c q=>a ⟨x,c,q⟩);rw[e1];rw[j]at g3;exact Na
   obtain⟨m,hm,o⟩:=aB8 d a;have f:=(QK.1 hm).1;rw[fF9 d a]at g3;by_cases b:m.program=aI;rotate_left
   ·have e1:relR s e=(inv0,27):=by unfold relR aD6;rw[QJ a,hm];exact Q9 b
    exact Nb
   ·have e1:relR s e=(setK s (bs sid s.stocks e.id) (prog m e.text),0):=by unfold relR aD6;rw[QJ a,hm];exact QJ b
    rw[e1];generalize bs sid s.stocks e.id=k at*;have N:(s.stocks.set k (prog m e.text)).map aQ=(s.stocks.map aQ).set (k:Int).toNat (aQ (prog m e.text)):=Hy;have eR:invV (setK s k (prog m e.text))= .agg [.sl ((s.stocks.map aQ).set (k:Int).toNat (aQ (prog m e.text))), .sl (s.pieces.map aZ), .sl (s.used.map I),I s.received.1,I s.received.2,I s.scrap.1,I s.scrap.2] :=by rw[<-N];rfl
    exact NG
  by_cases k4:e.kind=4
  ·rw[w k4]
   by_cases a:∃m∈s.stocks,sid m=e.id;rotate_left
   ·have e1:bP3 s e=(inv0,8):=by unfold bP3 aD6;rw[Q9 a]
    have j:aC2 sid s.stocks e.id= -1:=aB5 (λx c q=>a ⟨x,c,q⟩);rw[e1];rw[j]at g3;exact Na
   obtain⟨m,hm,o⟩:=aB8 d a;have f:=(QK.1 hm).1;rw[fF9 d a]at g3;by_cases b:m.program≠aI;rotate_left
   ·have e1:bP3 s e=(inv0,10):=by unfold bP3 aD6;rw[QJ a,hm];exact Q9 b
    exact Nb
   ·have e1:bP3 s e=(setK s (bs sid s.stocks e.id) (prog m aI),0):=by unfold bP3 aD6;rw[QJ a,hm];exact QJ b
    rw[e1];generalize bs sid s.stocks e.id=k at*;have N:(s.stocks.set k (prog m aI)).map aQ=(s.stocks.map aQ).set (k:Int).toNat (aQ (prog m aI)):=Hy;have eR:invV (setK s k (prog m aI))= .agg [.sl ((s.stocks.map aQ).set (k:Int).toNat (aQ (prog m aI))), .sl (s.pieces.map aZ), .sl (s.used.map I),I s.received.1,I s.received.2,I s.scrap.1,I s.scrap.2] :=by rw[<-N];rfl
    exact NG
  by_cases k8:e.kind=8
  ·rw[H k8]
   by_cases a:∃m∈s.stocks,sid m=e.id;rotate_left
   ·have e1:bQ0 s e=(inv0,8):=by unfold bQ0 aD6;rw[Q9 a]
    have j:aC2 sid s.stocks e.id= -1:=aB5 (λx c q=>a ⟨x,c,q⟩);rw[e1];rw[j]at g3;exact Na
   obtain⟨m,hm,o⟩:=aB8 d a;have f:=(QK.1 hm).1;rw[fF9 d a]at g3;by_cases b:m.program=aI;rotate_left
   ·have e1:bQ0 s e=(inv0,27):=by unfold bQ0 aD6;rw[QJ a,hm];exact Q9 b
    exact Nb
   ·have e1:bQ0 s e=(aX4 s (bs sid s.stocks e.id) m,0):=by unfold bQ0 aD6;rw[QJ a,hm];exact QJ b
    rw[e1];generalize bs sid s.stocks e.id=k at*;have g5:=fJ6 m (M m (QO hm));unfold aX4;rcases Bool.eq_false_or_eq_true m.isBar with hb|hb
    ·have g4:Sp 51 [B m.isBar] (I 1):=by rw[hb];exact fG6 true
     have g6:=fG9 {s with scrap:=plus true s.scrap (gG m)} k f (by show s.stocks.length<=_;omega)
     exact NF
    ·have g4:Sp 51 [B m.isBar] (I 0):=by rw[hb];exact fG6 false
     have g6:=fG9 {s with scrap:=plus false s.scrap (gG m)} k f (by show s.stocks.length<=_;omega)
     exact NF
  by_cases k5:e.kind=5
  ·rw[C k5]
   by_cases a:∃m∈s.stocks,sid m=e.id;rotate_left
   ·have e1:cutW s e=(inv0,8):=by unfold cutW aD6;rw[Q9 a]
    have j:aC2 sid s.stocks e.id= -1:=aB5 (λx c q=>a ⟨x,c,q⟩);rw[e1];rw[j]at g3;exact Na
   obtain⟨m,hm,o⟩:=aB8 d a;have f:=(QK.1 hm).1;rw[fF9 d a]at g3;by_cases b:m.program≠aI;rotate_left
   ·have e1:cutW s e=(inv0,10):=by unfold cutW aD6;rw[QJ a,hm];exact Q9 b
    exact Nb
   ·have e1:cutW s e=cutQ s (bs sid s.stocks e.id) m e:=by unfold cutW aD6;rw[QJ a,hm];exact QJ b
    rw[e1];generalize bs sid s.stocks e.id=k at*;have g5:=gD2 s k m e hm Y Z aa (M m (QO hm)) hc hr;generalize cutQ s k m e=Q at*
    repeat' ((conv=>whnf);first|omega|(exfalso;contradiction)|refine jI (λheq=>?_) (λheq=>?_)|refine aB (l:=s.stocks) Aa ?_|refine gK (l:=s.stocks) hm Aa ?_|refine zc g2 ?_|refine zc g3 ?_|refine zc g5 ?_|refine zS ?_|refine zl (λhlt=>?_) (λhlt=>?_)|refine ze (λheq=>?_) (λheq=>?_))
    all_goals exact zE
  have hmp:(s.pieces.map aZ).length=s.pieces.length:=Ad;by_cases k6:e.kind=6
  ·rw[F k6]
   have g3:=fO3 s e.id Aa;by_cases a:∃m∈s.pieces,m.id=e.id;rotate_left
   ·have e1:nK s e.id 2 aI=(inv0,8):=by unfold nK;rw[Q9 a]
    have j:aC2 Piece.id s.pieces e.id= -1:=aB5 (λx c q=>a ⟨x,c,q⟩);rw[e1];rw[j]at g3;exact Na
   obtain⟨m,hm,o⟩:=aB8 J a;have f:=(QK.1 hm).1;rw[fF9 J a]at g3;by_cases b:m.status=1;rotate_left
   ·have e1:nK s e.id 2 aI=(inv0,10):=by unfold nK;rw[QJ a,hm];exact Q9 b
    exact NS
   ·have e1:nK s e.id 2 aI=(setP s (bs Piece.id s.pieces e.id) (marked m 2 aI),0):=by unfold nK;rw[QJ a,hm];exact QJ b
    rw[e1];generalize bs Piece.id s.pieces e.id=k at*;have eR:invV (setP s k (marked m 2 aI))= .agg [.sl (s.stocks.map aQ), .sl (((s.pieces.map aZ).set (k:Int).toNat (aZ {m with status:=2})).set (k:Int).toNat (aZ (marked m 2 aI))), .sl (s.used.map I),I s.received.1,I s.received.2,I s.scrap.1,I s.scrap.2] :=by rw[S9,List.set_set];unfold setP;rw[<-UN];rfl
    simp only;rw[eR]
    repeat' ((conv=>whnf);first|omega|refine cC0 [(10,10),(116,10),(119,10),(122,77777),(123,77777),(124,77777),(125,77777)] Af Am ?_|refine aB (l:=s.pieces) Aa ?_|refine dS rfl rfl BL ?_|refine dS rfl rfl BZ ?_|refine dB8 rfl rfl ?_|refine gK (l:=s.pieces) hm Aa ?_|refine cV1 rfl Gu ?_|refine zc g2 ?_|refine zc g3 ?_|refine zS ?_|refine zl (λhlt=>?_) (λhlt=>?_)|refine ze (λheq=>?_) (λheq=>?_))
    all_goals exact zE
  by_cases k7:e.kind=7
  ·rw[G k7]
   have g3:=fO3 s e.id Aa;by_cases a:∃m∈s.pieces,m.id=e.id;rotate_left
   ·have e1:nK s e.id 3 e.text=(inv0,8):=by unfold nK;rw[Q9 a]
    have j:aC2 Piece.id s.pieces e.id= -1:=aB5 (λx c q=>a ⟨x,c,q⟩);rw[e1];rw[j]at g3;exact Na
   obtain⟨m,hm,o⟩:=aB8 J a;have f:=(QK.1 hm).1;rw[fF9 J a]at g3;by_cases b:m.status=1;rotate_left
   ·have e1:nK s e.id 3 e.text=(inv0,10):=by unfold nK;rw[QJ a,hm];exact Q9 b
    exact NS
   ·have e1:nK s e.id 3 e.text=(setP s (bs Piece.id s.pieces e.id) (marked m 3 e.text),0):=by unfold nK;rw[QJ a,hm];exact QJ b
    rw[e1];generalize bs Piece.id s.pieces e.id=k at*;have eR:invV (setP s k (marked m 3 e.text))= .agg [.sl (s.stocks.map aQ), .sl (((((s.pieces.map aZ).set (k:Int).toNat (aZ {m with status:=2})).set (k:Int).toNat (aZ (marked m 2 aI))).set (k:Int).toNat (aZ (marked m 3 aI))).set (k:Int).toNat (aZ (marked m 3 e.text))), .sl (s.used.map I),I s.received.1,I s.received.2,I s.scrap.1,I s.scrap.2] :=by rw[S9,List.set_set,List.set_set,List.set_set];unfold setP;rw[<-UN];rfl
    simp only;rw[eR]
    repeat' ((conv=>whnf);first|omega|refine cC0 [(10,10),(116,10),(119,10),(122,77777),(123,77777),(124,77777),(125,77777)] Af Am ?_|refine cC0 [(10,10),(129,10),(132,10),(3,3),(135,3),(137,77777),(138,77777),(139,77777),(140,77777)] Af Am ?_|refine aB (l:=s.pieces) Aa ?_|refine dS rfl rfl BL ?_|refine dS rfl rfl BZ ?_|refine dB8 rfl rfl ?_|refine gK (l:=s.pieces) hm Aa ?_|refine cV1 rfl Gu ?_|refine zc g2 ?_|refine zc g3 ?_|refine zS ?_|refine zl (λhlt=>?_) (λhlt=>?_)|refine ze (λheq=>?_) (λheq=>?_))
    all_goals exact zE
  exfalso;omega
def br_bx{A B}(a:(x=true↔y=true)->A)(b:¬(x=true↔y=true)->B):branch (eqBB x y) A B:=by
 rw[cA1];cases x<;>cases y
 ·exact a RF
 ·exact b Ad
 ·exact b Ad
 ·exact a RF
theorem not_t:(!x)=true↔¬(x=true):=by cases x<;>simp
def fX8 b(a:Len6 b.defects):Sp 87 [barV b] (DB (yT b)):=by
 refine zsp Tryz.func87 ?_;have c:=dK6 b bar0 a;have e:DB (yT b)=DB (b=bar0):=Ru DB (propext gC9)
 rw[e];generalize (b=bar0)=P at*;exact zF
def fL6 e(n:iY e)(H:aA4 e.sheet):Sp 44 [aS e] (DB (iD e)):=by
 refine zsp Tryz.func44 ?_;have l:=fR6 e.sheet H;have E:=fX8 e.bar (by have:=n.br;show e.bar.defects.length<=_;omega)
 have Z:=fP7 e.sheet n.sh;have h4:=fR3 e.bar (by have:=n.br;omega)
 have u:=bD8 e.text;have J:=n.ct
 have N:=n.rs;have K:(e.cuts.map dK).length=e.cuts.length:=Ad
 have L:(e.rests.map bY).length=e.rests.length:=Ad
 have t:iD e↔((e.kind=1\/e.kind=2)->e.id=0/\e.text=aI)/\(¬(e.kind=1\/e.kind=2)->pJ e.sheet/\yT e.bar)/\(e.kind≠5->e.cuts.length=0/\e.rests.length=0/\e.scrap=0)/\
  (e.kind=1->yT e.bar/\dB e.sheet)/\(e.kind=2->pJ e.sheet/\fM e.bar)/\(e.kind=3\/e.kind=7->iM e.text)/\(e.kind=4\/e.kind=6\/e.kind=8->e.text=aI)/\
  (e.kind=5->nY e)/\1<=e.kind/\e.kind<=8:=RF
 have F:nY e↔(∀c∈e.cuts,bU7 c)/\(∀r∈e.rests,bR4 r)/\e.cuts.length<=60/\e.rests.length<=6/\0<=e.scrap/\e.text=aI:=RF;have Q:dB e.sheet->¬pJ e.sheet:=λh q=>by have:=h.1.1;have:=q.1;omega
 have S:fM e.bar->¬yT e.bar:=λh q=>by have:=h.1.1;have:=q.1;omega
 have C:iM e.text->¬e.text=aI:=λh q=>by have l:=h.1;rw[q]at l;exact absurd l (by decide)
 have m:iD e->(∀c∈e.cuts,bU7 c)/\∀r∈e.rests,bR4 r:=λh=>by
  by_cases u:e.kind=5
  ·have q:=(t.1 h).2.2.2.2.2.2.2.1 u
   exact⟨(F.1 q).1,(F.1 q).2.1⟩
  ·obtain⟨a,b,_⟩:=(t.1 h).2.2.1 u
   rw[RD]at a b;rw[a,b];exact⟨λc v=>(by cases v),λc v=>(by cases v)⟩
 generalize iD e=P at*;generalize nY e=X at*;generalize pJ e.sheet=U at*;generalize yT e.bar=V at*;generalize dB e.sheet=q1 at*;generalize fM e.bar=q2 at*;generalize iM e.text=q3 at*;by_cases y:e.kind<1\/8<e.kind
 ·have M:¬P:=λh=>by have:=t.1 h;omega
  rw[dbF M];exact zF
 have i:e.kind=1\/e.kind=2\/e.kind=3\/e.kind=4\/e.kind=5\/e.kind=6\/e.kind=7\/e.kind=8:=Aa;clear y;by_cases o:U;all_goals by_cases s:V
 all_goals by_cases O:e.text=aI
 all_goals first|rw[dbT o]at l|rw[dbF o]at l
 all_goals first|rw[dbT s]at E|rw[dbF s]at E
 all_goals rcases i with i|i|i|i|i|i|i|i
 all_goals
  repeat' ((conv=>whnf);first|(exfalso;contradiction)|refine eZ1 Am ?_|(refine br_bx (λg=>?_) (λg=>?_)<;>simp[aA1,eG4,not_t,dH,i,O]at g)|omega|refine zS ?_|refine zT ?_ ?_<;>intro _|fail)
 all_goals conv=>whnf
 all_goals first
  |exact aA (aC (λh=>by have:=t.1 h;grind))
  |skip
 all_goals first
  |(exfalso;exact C Ag Ag)
  |skip
 all_goals
  refine aU (A:=List Made) (B:=List Made) (λD R=>mkSt [(1, .box 1 0),(4,I D.length)] [(1,iJ e)] []) (λD R=>e.cuts=D++R/\∀c∈D,bU7 c) (λD R=>R.length) [] e.cuts ?_ ⟨rfl,Ad⟩ (λD R hp=>?_)
  ·exact zj
  obtain⟨hp,hD⟩:=hp
  cases R with
  |cons c R=>
   have j:=aO hp;have G:=fW3 c.id
   have Y:=bD8 c.part;have k:c∈e.cuts:=Ae
   have g:bU7 c↔nC c.id/\iM c.part/\1<=c.size:=RF;have d:¬bU7 c->¬P:=λh q=>h ((m q).1 c k)
   have f:bU7 c->∀z∈D++[c],bU7 z:=λh z hz=>Jh;generalize bU7 c=T at*;generalize nC c.id=W at*;generalize iM c.part=w2 at*
   repeat' ((conv=>whnf);first|omega|refine zS ?_|refine zT ?_ ?_<;>intro _|fail)
   all_goals conv=>whnf
   all_goals first
    |exact aA (aC (d (λh=>absurd (g.1 h).1 Ag)))
    |exact aA (aC (d (λh=>absurd (g.1 h).2.1 Ag)))
    |exact aA (aC (d (λh=>by have:=(g.1 h).2.2;omega)))
    |skip
   all_goals (refine⟨(D++[c],R),?_,⟨Ae,f (g.2 ⟨Ag,Ag,Aa⟩)⟩,Ad⟩)
   all_goals simp only[QN,QU]
   all_goals
    exact zj
  |nil=>
  have j:e.cuts.length=D.length:=Ae;have hA:∀c∈e.cuts,bU7 c:=λc h=>hD c BJ
  clear hD hp
  repeat' ((conv=>whnf);first|omega|refine zS ?_|refine zT ?_ ?_<;>intro _|fail)
  refine aU (A:=List Rest) (B:=List Rest) (λD R=>mkSt [(1, .box 1 0),(5,I D.length)] [(1,iJ e)] []) (λD R=>e.rests=D++R/\∀c∈D,bR4 c) (λD R=>R.length) [] e.rests ?_ ⟨rfl,Ad⟩ (λD R hp=>?_)
  ·exact zj
  obtain⟨hp,hD⟩:=hp
  cases R with
  |cons c R=>
   have j:=aO hp;have G:=fW3 c.id
   have k:c∈e.rests:=Ae;have g:bR4 c↔nC c.id/\(c.box=bx0\/(c.lo=0/\c.hi=0)):=RF
   have d:¬bR4 c->¬P:=λh q=>h ((m q).2 c k);have f:bR4 c->∀z∈D++[c],bR4 z:=λh z hz=>Jh
   generalize bR4 c=T at*;generalize nC c.id=W at*
   repeat' ((conv=>whnf);first|omega|refine cC5 ?_|refine cA4 (a:=c.box) (b:=bx0) (λhv=>?_) (λhv=>?_)|refine zS ?_|refine zT ?_ ?_<;>intro _|fail)
   all_goals conv=>whnf
   all_goals first
    |exact aA (aC (d (λh=>absurd (g.1 h).1 Ag)))
    |exact aA (aC (d (λh=>by rcases(g.1 h).2 with w|w<;>first|contradiction|omega)))
    |refine⟨(D++[c],R),?_,⟨Ae,f (g.2 ⟨Ag,by first|exact .inl (by assumption)|exact .inr ⟨by omega,by omega⟩⟩)⟩,Ad⟩
   all_goals simp only[QN,QU]
   all_goals
    exact zj
  |nil=>
  have x:e.rests.length=D.length:=Ae;have hB:∀c∈e.rests,bR4 c:=λc h=>hD c BJ
  clear hD hp
  repeat' ((conv=>whnf);first|omega|refine zS ?_|refine zT ?_ ?_<;>intro _|fail)
  all_goals conv=>whnf
  all_goals exact aA (fE (t.2 Bg))
def gB0 s e(a:Sp 44 [aS e] (.lit (.bool false))):fnVC T Tryz.prog Tryz.f16 [invV s,aS e] (.tup [invV inv0,I 1]):=by
 exact zF
def fO2(h:Fine s n)(f:n<=900000)(o:iY e)(j:aA4 e.sheet)(l:e.cuts.length<=10000)(p:e.rests.length<=10000):
 Sp 16 [invV s,aS e] (.tup [invV (appR s e).1,I (appR s e).2]):=by
 have c:=fL6 e o j;refine zsp Tryz.func16 ?_;by_cases a:iD e;rotate_left
 ·rw[dbF a]at c
  have g:appR s e=(inv0,1):=Q9 a;rw[g];exact gB0 s e c
 ·rw[dbT a]at c
  exact fX9 s e (appR s e) (Rl h.ok.lu f) l p c (λb=>gH5 a b) (Rl h.ok.ls f) (Rl h.ok.lp f) (λk=>(aX9 (a.2.2.2.1 k).2).1)
   (λk b=>app1 a k b) h.ok.ss (λk _=>app3 a k) (λk _=>app4 a k) h.ok.sz (λk _=>app8 a k)
   (λk b=>app5 a k h.ok.su b (λm d=>⟨(fV0 (h.bd m d)).1,(fV0 (h.bd m d)).2,λr _ i=>gI6 (h.bd m d) i⟩))
   (λk b=>app2 a k b) h.ok.sp (λk _=>app6 a k) (λk _=>app7 a k)
   a.2.2.2.2.2.2.2.2.1 a.2.2.2.2.2.2.2.2.2
def aQ4(l:bI1 e)(m:fewE e):iY e/\e.cuts.length<=12/\e.rests.length<=8/\more e<=21:=by
 let⟨⟨v,w,x,j,k⟩,y⟩:=m;let⟨⟨⟨g,q,i⟩,r,f⟩,s,t,u⟩:=l;let⟨n,z,A,B,o⟩:=j;have a:e.cuts.length<=12:=Aa;have b:e.rests.length<=8:=Aa
 refine⟨⟨⟨⟨g,?_,i⟩,Aa,λd c=>⟨(f d c).1,?_,(f d c).2.2⟩⟩,by have:=k.2.2;omega,Aa,Aa⟩,a,b,Hq⟩
 ·have:=o.1;omega
 ·have:=(n d c).1;omega
def bH2(h:∀e∈l,more e<=21):moreL l<=21*l.length:=by
 induction l with
 |nil=>exact QR 0
 |cons e l a=>
  grind [QX,moreL]
structure AccE(l E:List Event):Prop where
 eq:okEv inv0 l=E
 ln:E.length<=16
 sz:∀e∈E,iY e
 mr:moreL E<=336
 ac:Acc56 inv0 E
def acc_of(f:∀e∈l,bI1 e)(j:fewL l 16):AccE l (okEv inv0 l)/\Sp 7 [.sl (l.map aS)] (.own 52 ((okEv inv0 l).map aS)):=by
 let⟨d,k⟩:=j;have a:=λe b=>aQ4 (f e b) (d e b);have o:=bH2 (λe b=>(a e b).2.2.2)
 have c:=okEv_sub l inv0;have i:(okEv inv0 l).length<=16:=by have:=c.length_le;omega
 have m:=bH2 (l:=okEv inv0 l) (λe b=>(a e (c.subset b)).2.2.2)
 exact⟨⟨rfl,i,λe b=>(a e (c.subset b)).1,Aa,acc_ok l inv0⟩,
  applied_spec l Aa Fine ⟨gG6,λs e n h g=>fN9 h g,λe b=>bB8 e (by have:=(a e b).2.1;omega) (by have:=(a e b).2.2.1;omega),
   λe b s n h q=>fO2 h q (a e b).1 (f e b).sh (by have:=(a e b).2.1;omega) (by have:=(a e b).2.2.1;omega)⟩ Aa⟩
theorem more_app a b:moreL (a++b)=moreL a+moreL b:=FN
def moreL_take E n:moreL (E.take n)<=moreL E:=by
 grind [more_app,Sl]
def bld_take(h:AccE l E) n:Sp 6 [.sl ((E.take n).map aS)] (.tup [.own 36 ((finF inv0 [] (E.take n)).map nodeV),I (E.take n).length,I 0]):=by
 have b:=moreL_take E n;have c:=h.mr
 have d:=h.ln;have f:(E.take n).length<=E.length:=AY
 have g:=build_spec (E.take n) (λe a=>h.sz e (Ry a)) Aa Aa (fit_all _ inv0 [] 0 ok0 rfl Aa);rw[build_acc _ _ _ _ (acc_take E inv0 n h.ac),Uw]at g;exact g
def fo_take(h:AccE l E) n:Fo (finI inv0 (E.take n)) (finF inv0 [] (E.take n))/\Ok (finI inv0 (E.take n)) 336/\(finF inv0 [] (E.take n)).length<=336:=by
 have c:=moreL_take E n;have d:=h.mr
 let⟨a,b⟩:=acc_fo (E.take n) inv0 [] 0 ok0 fo0 Aa (acc_take E inv0 n h.ac);refine⟨a,b.mono Aa,?_⟩;have e:=b.lu;have f:(finF inv0 [] (E.take n)).length=(finI inv0 (E.take n)).used.length:=by rw[<-a.ids,Rj]
 omega
def tree_all:∀ l  s  f  n,Tree s f->Good s n->Vs s->Bd s->Acc56 s l->Tree (finI s l) (finF s f l)/\Good (finI s l) (n+moreL l)/\Bd (finI s l)
 | [],s,f,n,h,a,_,g,_=>⟨h,a,g⟩
 |e::l,s,f,n,h,a,hv,g,i=>by
  let⟨k,j⟩:=aZ6 a.ok i.1;have c:=good_step a i.1;have d:=eP3 hv j
  have b:=gI7 g j;have:=tree_all l _ _ _ (tree_step h a.ok hv g a.bal a.ids k j c.ok d b) c d b i.2
  rw[show n+moreL (e::l)=n+more e+moreL l by unfold moreL;simp;omega]
  exact this
def climb_rank{f:List Node}{r:Int->Nat}(i:SortN f)(g:∀x∈f,x.parent≠0->∃p∈f,p.id=x.parent/\linkN x p)(b:∀x∈f,x.parent≠0->r x.parent<r x.id):∀(k:Nat) (x:Node),x∈f->r x.id<=k->climbR f k x=true
 |0,x,a,h=>by
  unfold climbR;refine decide_eq_true ?_;by_cases c:x.parent=0
  ·exact c
  ·have:=b x a c
   omega
 |k+1,x,a,h=>by
  unfold climbR;by_cases c:x.parent=0
  ·rw[QJ c]
  ·obtain⟨p,d,e,_⟩:=g x a c
   have j:=b x a c;rw[Q9 c,<-e,getN_some i d];exact climb_rank i g b k p d (by rw[e];omega)
def right_tree(h:Tree s f)(w:Ok s n):RightF f:=by
 have m:=tree_sorted h w;let⟨r,o⟩:=h.rank
 exact⟨λx l=>by
  let⟨a,b,c,d,_,e,g,i,j,k,_⟩:=h.own x l
  exact⟨a,b,c,d,e,g,i,j,k⟩,m,λx l q=>by
  let⟨p,t,u,v⟩:=h.par x l q;exact⟨p,by rw[<-u];exact getN_some m t,v⟩,λx l=>climb_rank m h.par (λx l=>(o x l).2) _ x l (TU (o x l).1),h.sum⟩
structure Fin57(E:List Event)(s:aJ)(f:List Node):Prop where
 tr:Tree s f
 gd:Good s 336
 rt:RightF f
 ln:f.length<=336
 bl:Sp 6 [.sl (E.map aS)] (.tup [.own 36 (f.map nodeV),I E.length,I 0])
def fin_of(h:AccE l E):Fin57 E (finI inv0 E) (finF inv0 [] E):=by
 let⟨a,b,c⟩:=tree_all E inv0 [] 0 tree0 cN2 vs0 bd0 h.ac;have i:=h.mr;have d:Good (finI inv0 E) 336:=b.mono Aa
 have e:E.take E.length=E:=TA;have g:=bld_take h E.length
 have f:=(fo_take h E.length).2.2;rw[e]at g f;exact⟨a,d,right_tree a d.ok,f,g⟩
def tree_wf(h:Tree s f)(a:Good s n):WfN f:=λx b=>by
 have d:=a.ids.rng x.id (mem_id h b)
 have e:x.parent=0\/nC x.parent:=by
  by_cases c:x.parent=0
  ·exact .inl c
  ·exact .inr (a.ids.rng _ (par_used h b c))
 unfold nC at d e;simp only[Lit.wf,IntKind.min,IntKind.max,IntKind.signed,IntKind.bits,decide_eq_true_eq,Rf];constructor<;>constructor<;>simp<;>omega
def tree_sz(h:Tree s f):SzN f:=λx a=>by
 have:=(h.own x a).2.2.2.2.1;omega
def lawAccount_spec(l:List Event)(r:Sp 4 [] (.lit (.bool true)))(w:l.length<=9223372036854775807)(j:∀e∈l,bI1 e):Sp 3 [.sl (l.map aS)] (.lit (.bool true)):=by
 refine zsp Tryz.func3 ?_;have y:=aS2 l 16 w j;by_cases t:fewL l 16;rotate_left
 ·repeat' ((conv=>whnf);first|(exfalso;contradiction)|refine zS ?_|refine zm (λx g=>?_)|refine zT ?_ ?_<;>intro _|fail)
  all_goals exact zE
 obtain⟨q,z⟩:=acc_of j t;have d:=fin_of q;generalize okEv inv0 l=E at*;generalize finF inv0 [] E=f at*;generalize finI inv0 E=s at*;have C:=d.bl
 repeat' ((conv=>whnf);first|(exfalso;contradiction)|refine zS ?_|refine zm (λx g=>?_)|refine zT ?_ ?_<;>intro _|fail)
 all_goals conv=>whnf
 have u:=d.ln;have v:(f.map nodeV).length=f.length:=Ad
 refine aU (A:=List Node) (B:=List Node) (λD R=>mkSt [(3, .sl (f.map nodeV)),(5,I 0),(6,I D.length)] [] []) (λD R=>f=D++R) (λD R=>R.length) [] f ?_ rfl (λD R hp=>?_)
 ·refine Le.trans (fB (k:=17) rfl (.inl rfl)) ?_
  exact zj
 cases R with
 |nil=>
  have o:f.length=D.length:=Ae
  repeat' ((conv=>whnf);first|omega|refine zS ?_|refine zm (λx g=>?_)|refine zT ?_ ?_<;>intro _|fail)
  all_goals conv=>whnf
  exact aK (aA1.2 rfl)
 |cons x R=>
  have o:=aO hp;have g:x∈f:=Ae
  have n:=sumY_spec f x.id x Aa (tree_sz d.tr) (tree_wf d.tr d.gd) d.rt (getN_some d.rt.so g);have m:=(d.tr.own x g).2.2.2.2.1
  obtain⟨a,b,c,e,F,j,G,i⟩:=acc_sum d.rt g m;rw[e]at n;have H:W (a+b)=a+b:=w_in Aa;have J:W (a+b+c)=x.size:=by rw[w_in (by omega),i]
  repeat' ((conv=>whnf);first|omega|refine zS ?_|refine zm (λx g=>?_)|refine zT ?_ ?_<;>intro _|fail)
  all_goals conv=>whnf
  refine⟨(D++[x],R),?_,Ae,Ad⟩;exact MZ
end Go.Proofs.Led
