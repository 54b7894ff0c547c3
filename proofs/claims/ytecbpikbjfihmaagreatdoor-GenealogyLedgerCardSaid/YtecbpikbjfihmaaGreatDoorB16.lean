/- Lemmas. -/
import Derived.Test.YtecbpikbjfihmaaGreatDoorB11
import Derived.Test.YtecbpikbjfihmaaGreatDoorB17
import Derived.Test.YtecbpikbjfihmaaGreatDoorB14
set_option linter.all false
set_option autoImplicit true
set_option relaxedAutoImplicit true
set_option maxRecDepth 100000
set_option maxHeartbeats 8000000
noncomputable section
namespace Go.Proofs.Led
open Go Go.Proofs Go.Ab
def ownN(x:Node):Prop:=1<=x.id/\1<=x.kind/\x.kind<=3/\1<=x.size/\x.size<=100000000000000/\0<=x.scrap/\x.scrap<=x.size/\(x.gone=false->x.scrap=0)/\
 (x.kind=3->iM x.part/\x.parent≠0/\x.gone=false)/\(x.kind≠3->x.part=aI)/\0<=x.parent
def rsum(b:Bool)(f:List Node):Int:=(f.map λx=>if x.parent=0/\(x.kind=2↔b=true)then x.size else 0).sum
structure Tree(s:aJ)(f:List Node):Prop where
 ids:f.map Node.id=s.used
 own:∀x∈f,ownN x
 par:∀x∈f,x.parent≠0->∃p∈f,p.id=x.parent/\linkN x p
 sum:∀g∈f,g.gone=true->ksum f g.id=g.size-g.scrap
 rank:∃r:Int->Nat,∀x∈f,r x.id<f.length/\(x.parent≠0->r x.parent<r x.id)
 st:∀x∈f,x.gone=false->x.kind≠3->∃y∈s.stocks,nodeOf y x.parent=x
 pc:∀x∈f,x.kind=3->∃p∈s.pieces,pieceN p p.parent=x
 ts:∀y∈s.stocks,∃p,nodeOf y p∈f
 tp:∀p∈s.pieces,pieceN p p.parent∈f
 rc:∀b,W (rsum b f)=cls b s.received
def tree0:Tree inv0 []where
 ids:=rfl
 own:=Ad
 par:=Ad
 sum:=Ad
 rank:=⟨λ_=>0,Ad⟩
 st:=Ad
 pc:=Ad
 ts:=Eb
 tp:=Eb
 rc:=λb=>by cases b<;>decide
def ksum_put f i x n:ksum (putAt f i x) n=ksum f n+if x.parent=n then x.size else 0:=bU2 _ _ _ _
theorem ksum_fold n:∀ xs f,ksum (xs.foldl addN f) n=ksum f n+ksum xs n
 | [],f=>by show ksum f n=ksum f n+0;omega
 |x::xs,f=>by
  rw[RV,ksum_fold n xs,show ksum (addN f x) n=_ from ksum_put _ _ _ _,show ksum (x::xs) n=(if x.parent=n then x.size else 0)+ksum xs n from by unfold ksum;simp];omega
def ksum_none(h:∀x∈f,x.parent≠n):ksum f n=0:=by
 unfold ksum;induction f with
 |nil=>rfl
 |cons x f a=>rw[Rt,Sv,Q9 (h x Ad),a (λy hy=>h y Gt)];rfl
def ksum_all(h:∀x∈f,x.parent=n):ksum f n=(f.map Node.size).sum:=by
 unfold ksum;induction f with
 |nil=>rfl
 |cons x f a=>rw[Rt,Sv,QU (h x Ad),a (λy hy=>h y Gt),Rt,Sv]
def rsum_put b f i x:rsum b (putAt f i x)=rsum b f+if x.parent=0/\(x.kind=2↔b=true)then x.size else 0:=bU2 _ _ _ _
def rsum_fold b:∀(xs f:List Node),(∀x∈xs,x.parent≠0)->rsum b (xs.foldl addN f)=rsum b f
 | [],f,_=>rfl
 |x::xs,f,h=>by
  rw[RV,rsum_fold b xs _ (λy hy=>h y Gt),show rsum b (addN f x)=_ from rsum_put _ _ _ _,Q9 (λq=>h x Ad q.1),Us]
def tree_sorted(h:Tree s f)(a:Ok s n):(f.map Node.id).Pairwise (·<·):=by
 have:=a.su;rw[List.map_id]at this;rw[h.ids];exact this
def mem_id(h:Tree s f)(hx:x∈f):x.id∈s.used:=Gu
def kind3{x:Node}(h:ownN x)(a:x.gone=true):x.kind≠3:=λe=>by
 have:=(h.2.2.2.2.2.2.2.2.1 e).2.2;rw[a]at this;cases this
def no_kids(h:Tree s f)(d:Ok s n)(a:x∈f)(c:x.gone=false):∀y∈f,y.parent≠x.id:=by
 intro y j e;have i:=(h.own x a).1;let⟨p,g,k,b⟩:=h.par y j Aa;have:p=x:=bB9 (tree_sorted h d) g a Aa;subst this;exact Bool.noConfusion (c.symm.trans b.1)
def fresh_node(h:Tree s f)(hi:i∉s.used)(a:x∈f):x.id≠i:=λe=>hi (by rw[<-e];exact mem_id h a)
def par_used(h:Tree s f)(c:x∈f)(a:x.parent≠0):x.parent∈s.used:=by
 let⟨p,b,e,_⟩:=h.par x c a;rw[<-e];exact mem_id h b
def tree_recv(h:Tree s f)(L:Ok s n)(C:sid x∉s.used)(F:1<=sid x)(B:1<=gG x/\gG x<=100000000000000):Tree (aX7 s x) (addN f (nodeOf x 0)):=by
 let⟨D,w,m,E,v⟩:=nodeOf_gone x 0;have A:=nodeOf_id x 0;have gk:=nodeOf_kind x 0;have K:(nodeOf x 0).kind=1\/(nodeOf x 0).kind=2:=Ie;have c:∀ {y},y∈addN f (nodeOf x 0)↔y=nodeOf x 0\/y∈f:=fH
 have u:ownN (nodeOf x 0):=by
  refine⟨by rw[A];exact F,Aa,Aa,by rw[v];exact B.1,by rw[v];exact B.2,by rw[w];exact TB 0,by rw[w,v];omega,λ_=>w,λe=>Aa,λ_=>E,by rw[m];exact TB 0⟩
 have q:(addN f (nodeOf x 0)).length=f.length+1:=mQ;refine⟨?_,?_,?_,?_,?_,?_,?_,?_,?_,?_⟩;rw[addN_ids,h.ids,A];rfl;intro y a;rcases c.1 a with rfl|a;exact u;exact h.own y a;intro y a d;rcases c.1 a with rfl|a;exact absurd m d;let⟨p,l,e⟩:=h.par y a d;exact⟨p,c.2 (.inr l),e⟩;intro g o j;rcases c.1 o with rfl|o;rw[D]at j;cases j;have:=(h.own g o).1;rw[show ksum (addN f (nodeOf x 0)) g.id=_ from ksum_put _ _ _ _,m,Q9 Aa,Us];exact h.sum g o j;let⟨r,G⟩:=h.rank;refine⟨λi=>if i=sid x then f.length else r i,λy a=>?_⟩;rw[q];rcases c.1 a with rfl|a;rw[A];exact⟨Ad,λd=>absurd m d⟩;have t:=fresh_node h C a;let⟨M,I⟩:=G y a;refine⟨by simp[Q9 t];omega,λd=>?_⟩;have l:y.parent≠sid x:=λe=>C (by rw[<-e];exact par_used h a d);simp[Q9 t,Q9 l];exact I d;intro y a o k;rcases c.1 a with rfl|a;exact⟨x,fH.2 (.inl rfl),by rw[m]⟩;let⟨z,H,e⟩:=h.st y a o k;exact⟨z,fH.2 (.inr H),e⟩;intro y a k;rcases c.1 a with rfl|a;omega;exact h.pc y a k;intro y a;rcases fH.1 a with rfl|a;exact⟨0,c.2 (.inl rfl)⟩;let⟨p,l⟩:=h.ts y a;exact⟨p,c.2 (.inr l)⟩;exact λp l=>c.2 (.inr (h.tp p l));intro b;show W (rsum b (addN f (nodeOf x 0)))=cls b (plus x.isBar s.received (gG x));rw[show rsum b (addN f (nodeOf x 0))=_ from rsum_put _ _ _ _,rX,<-h.rc b,m,gk,v];cases J:x.isBar<;>cases b<;>simp[bF8]
def tree_set(h:Tree s f)(hm:s.stocks[k]? =some m) p:Tree (setK s k (prog m p)) f where
 ids:=h.ids
 own:=h.own
 par:=h.par
 sum:=h.sum
 rank:=h.rank
 st:=λx hx hg hk=>by
  let⟨y,hy,e⟩:=h.st x hx hg hk;by_cases c:y=m;subst c;exact⟨prog y p,cB8 hm,e⟩;exact⟨y,bN9 hm hy c,e⟩
 pc:=h.pc
 ts:=λy hy=>by
  rcases mem_set hy with rfl|hy;exact h.ts m (fC hm);exact h.ts y hy
 tp:=h.tp
 rc:=h.rc
def tree_setP(h:Tree s f)(hm:s.pieces[k]? =some m) st o:Tree (setP s k (marked m st o)) f where
 ids:=h.ids
 own:=h.own
 par:=h.par
 sum:=h.sum
 rank:=h.rank
 st:=h.st
 pc:=λx hx hk=>by
  let⟨y,hy,e⟩:=h.pc x hx hk;by_cases c:y=m;subst c;exact⟨marked y st o,cB8 hm,e⟩;exact⟨y,bN9 hm hy c,e⟩
 ts:=h.ts
 tp:=λy hy=>by
  rcases mem_set hy with rfl|hy;exact h.tp m (fC hm);exact h.tp y hy
 rc:=h.rc
def mem_out{z:b}(a:l[j]? =some z)(h:j≠k):z∈nN l k:=by
 unfold nN;rw[Rh];rcases Nat.lt_or_gt_of_ne h with c|c;exact .inl (List.mem_iff_getElem?.2 ⟨j,by rw[TV,QU c];exact a⟩);refine .inr (List.mem_iff_getElem?.2 ⟨j- (k+1),?_⟩);rw[SA,show k+1+(j- (k+1))=j from Aa];exact a
def ksum_set{sc n}(a:f[i]? =some x):ksum (f.set i (goneN x sc)) n=ksum f n:=dF7 _ a rfl
def rsum_set{sc}(a:f[i]? =some x):rsum b (f.set i (goneN x sc))=rsum b f:=dF7 _ a rfl
def stock_node(h:Tree s f)(d:Ok s n)(g:m∈s.stocks):∃x,f[bs Node.id f (sid m)]? =some x/\x.id=sid m/\x=nodeOf m x.parent:=by
 let⟨p,e⟩:=h.ts m g;have a:∃y∈f,y.id=sid m:=⟨_,e,nodeOf_id m p⟩;let⟨x,b,c⟩:=aB8 (tree_sorted h d) a;refine⟨x,b,c,?_⟩;have:x=nodeOf m p:=bB9 (tree_sorted h d) (fC b) e (by rw[c,nodeOf_id]);rw[this,(nodeOf_gone m p).2.2.1]
def tree_gone{f xs:List Node}{sc}(h:Tree s f)(R:Ok s n)(Z:s.stocks[k]? =some m)(hi:f[i]? =some x)(hx:x.id=sid m)(L:x=nodeOf m x.parent)
 (hu:s'.used=cO s.used (xs.map Node.id))(hf:dP s.used (xs.map Node.id))(C:∀y∈xs,ownN y/\y.parent=x.id/\linkN y (goneN x sc))(E:0<=sc/\sc=x.size- (xs.map Node.size).sum/\sc<=x.size)
 (T:∀y∈nN s.stocks k,y∈s'.stocks)(K:∀y∈s'.stocks,y∈nN s.stocks k\/∃p,nodeOf y p∈xs)(S:∀p∈s.pieces,p∈s'.pieces)(J:∀p∈s'.pieces,p∈s.pieces\/pieceN p p.parent∈xs)
 (F:∀z∈xs,z.gone=false/\(z.kind≠3->∃y∈s'.stocks,nodeOf y z.parent=z)/\(z.kind=3->∃p∈s'.pieces,pieceN p p.parent=z))(hr:s'.received=s.received):Tree s' (xs.foldl addN (f.set i (goneN x sc))):=by
 have hs:=tree_sorted h R;have hxf:=fC hi;let⟨g1,g2,g3,X,g5⟩:=nodeOf_gone m x.parent;rw[<-L]at g1 g2 X g5;have gk:=nodeOf_kind m x.parent;rw[<-L]at gk;have B:x.kind≠3:=Ie;have c:=h.own x hxf;have d:(f.set i (goneN x sc)).map Node.id=f.map Node.id:=bY6 hi rfl;let⟨W,f2⟩:=qJ.1 hf
 have w:=bE9 (key:=Node.id) (xs:=xs) (l:=f.set i (goneN x sc)) (by rw[d];exact hs) (λz U y a e=>by
  have h1:y.id∈s.used:=by rw[<-h.ids,<-d];exact RD a
  exact W z.id (RD U) (by rw[<-e];exact h1)) f2
 have hfold:=λy=>by
  have:=w.2.1 y;rw[set_mem hs hi]at this;rw[or_assoc]at this;exact this
 have I:(xs.foldl addN (f.set i (goneN x sc))).length=f.length+xs.length:=by
  have:=w.2.2;rw[TK]at this;exact this
 have M:=(hfold _).2 (.inl rfl);have Q:∀y∈xs,y.id∉s.used:=λy a=>W y.id (RD a);have P:=no_kids h R hxf g1;refine⟨?_,?_,?_,?_,?_,?_,?_,?_,?_,?_⟩
 ·rw[fold_ids,d,h.ids,hu]
 ·intro y a
  rcases(hfold y).1 a with rfl|⟨a,_⟩|a
  ·exact⟨c.1,c.2.1,c.2.2.1,c.2.2.2.1,c.2.2.2.2.1,E.1,E.2.2,λq=>EP,λq=>absurd q B,λ_=>X,c.2.2.2.2.2.2.2.2.2.2⟩
  ·exact h.own y a
  ·exact(C y a).1
 ·intro y a t
  rcases(hfold y).1 a with rfl|⟨a,_⟩|a
  ·let⟨p,hp,e1,e2⟩:=h.par x hxf t
   exact PL
  ·let⟨p,hp,e1,e2⟩:=h.par y a t
   exact PL
  ·exact⟨goneN x sc,M,(C y a).2.1.symm,(C y a).2.2⟩
 ·intro g v A
  rw[ksum_fold,ksum_set hi];rcases(hfold g).1 v with rfl|⟨v,u⟩|v
  ·show ksum f x.id+ksum xs x.id=x.size-sc
   rw[ksum_none P,ksum_all (λy a=>(C y a).2.1),E.2.1];omega
  ·rw[ksum_none (f:=xs) (λy a e=>u (by rw[<-e,(C y a).2.1])),Us]
   exact h.sum g v A
  ·rw[(F g v).1]at A;cases A
 ·let⟨r,D⟩:=h.rank
  open Classical in
  refine⟨λi=>if i∈s.used then r i else f.length,λy a=>?_⟩;rw[I];have G:=mem_id h hxf;rcases(hfold y).1 a with rfl|⟨a,_⟩|a
  ·let⟨q1,V⟩:=D x hxf
   refine⟨by show(if x.id∈s.used then r x.id else f.length)<_;rw[QU G];omega,λt=>?_⟩;show(if x.parent∈s.used then r x.parent else f.length)< (if x.id∈s.used then r x.id else f.length);rw[QU G,QU (par_used h hxf t)];exact V t
  ·let⟨q1,V⟩:=D y a
   have o:=mem_id h a;refine⟨by simp[QU o];omega,λt=>?_⟩;simp[QU o,QU (par_used h a t)];exact V t
  ·have o:=Q y a
   have aa:=List.length_pos_of_mem a;refine⟨by simp[Q9 o];omega,λt=>?_⟩;simp[Q9 o,(C y a).2.1,QU G];exact(D x hxf).1
 ·intro y a v H
  rcases(hfold y).1 a with rfl|⟨a,u⟩|a
  ·cases v
  ·let⟨z,U,e⟩:=h.st y a v H
   refine⟨z,T z ?_,e⟩;let⟨j,N⟩:=RF U
   have O:j≠k:=λe2=>by
    subst e2;rw[Z]at N;cases N;exact u (by rw[<-e,nodeOf_id,hx])
   exact mem_out N O
  ·exact(F y a).2.1 H
 ·intro y a H
  rcases(hfold y).1 a with rfl|⟨a,u⟩|a
  ·exact absurd H B
  ·let⟨p,hp,e⟩:=h.pc y a H
   exact⟨p,S p hp,e⟩
  ·exact(F y a).2.2 H
 ·intro y a
  rcases K y a with a|⟨q,hq⟩
  ·let⟨p,hp⟩:=h.ts y ((kM _ _).subset a)
   refine⟨p,(hfold _).2 (.inr (.inl ⟨hp,?_⟩))⟩;rw[nodeOf_id,hx];exact out_ne R.ss Z a
  ·exact⟨q,(hfold _).2 (.inr (.inr hq))⟩
 ·intro p hp
  rcases J p hp with hp|hp
  ·have Y:=h.tp p hp
   refine(hfold _).2 (.inr (.inl ⟨Y,λe=>?_⟩));have:pieceN p p.parent=x:=bB9 hs Y hxf e;exact B (by rw[<-this];rfl)
  ·exact(hfold _).2 (.inr (.inr hp))
 ·intro b
  rw[rsum_fold b xs _ (λy a e=>by have:=(C y a).2.1;have:=c.1;omega),rsum_set hi,hr];exact h.rc b
def follow_set(a:e.kind≠1)(b:e.kind≠2)(g:e.kind≠8)(i:e.kind≠5)(c:e.cuts=[])(d:e.rests=[]):followN f s e=f:=by
 unfold followN growN;rw[Q9 a,Q9 b,Q9 Aa,c,d];rfl
def sum_nonneg:∀ {l:List Int},(∀x∈l,0<=x)->0<=l.sum
 | [],_=>Ad
 |x::l,h=>by
  have a:=sum_nonneg (l:=l) (λy hy=>h y Gt);have b:=h x Ad;rw[Sv];omega
def stock_pos(h:stOk x)(b:fT2 x):1<=gG x/\gG x<=100000000000000:=by
 refine⟨?_,(fV0 b).2⟩;unfold gG;cases a:x.isBar with
 |true=>
  simp[Uy];exact(h.1 a).1.2.1
 |false=>
  simp[Bool.false_eq_true,Uu];exact area_pos (h.2 a).1.2.2.2.1.1
def tree_step(h:Tree s f)(S:Ok s n)(hv:Vs s)(hb:Bd s)(P:Bal s)(ag:Ids s)(hf:iD e)(hs:Step s e s')(T:Ok s' (n+more e))(af:Vs s')(aa:Bd s'):Tree s' (followN f s' e):=by
 cases hs with
 |recv x L hn=>
  let⟨v1,v2⟩:=bH6 L;have H:x∈(aX7 s x).stocks:=fH.2 (.inl rfl);have j:=stock_pos (af x H) (aa x H)
  have O:followN f (aX7 s x) e=addN f (nodeOf x 0):=by
   unfold followN;rcases L with⟨b,B,_⟩|⟨b,B,_⟩;rw[QU b,B];rw[Q9 Aa,QU b,B]
  rw[O];exact tree_recv h S hn v2.1 j
 |setK k m p K t i=>
  let⟨M,N⟩:=noLists hf Aa;rw[follow_set Aa Aa Aa Aa M N];exact tree_set h t p
 |setP k m st o K t ak i=>
  let⟨M,N⟩:=noLists hf Aa;rw[follow_set Aa Aa Aa Aa M N];exact tree_setP h t st o
 |disc k m K t i=>
  let⟨M,N⟩:=noLists hf Aa;let⟨x,b,B,A⟩:=stock_node h S (fC t);rw[i]at b
  have O:followN f (aX4 s k m) e=f.set (bs Node.id f e.id) (goneN x x.size):=by
   unfold followN growN goneAt;rw[Q9 Aa,Q9 Aa,QU (.inl K),b,M,N];simp[QU K];rfl
  rw[O];have E:=h.own x (fC b);exact tree_gone (s':=aX4 s k m) (xs:=[]) h S t b B A rfl trivial Ad ⟨by have:=E.2.2.2.1;omega,Ad,TB _⟩ (λy a=>a) (λy a=> .inl a) (λp j=>j) (λp j=> .inl j) Ad rfl
 |cut k m K d ab t i j I hl=>
  let⟨x,b,B,A⟩:=stock_node h S (fC t);rw[i]at b;have w:=aF7 s e k m;have v:=aG4 s e k m
  have R:∀r∈e.rests,dZ m r∈(cut5 s e k m).stocks:=λr hr'=>by
   rw[w];refine aE5.2 (.inr ?_);rw[mV I];exact RD hr'
  have Q:∀c∈e.cuts,fZ e m c∈(cut5 s e k m).pieces:=λc l=>by
   rw[v];exact aE5.2 (.inr (RD l))
  have hrid:=λr hr'=>cL1 (tZ I r hr')
  have O:followN f (cut5 s e k m) e=(e.cuts.map (λc=>pieceN (fZ e m c) e.id)++e.rests.map λr=>nodeOf (dZ m r) e.id).foldl addN (f.set (bs Node.id f e.id) (goneN x e.scrap)):=by
   unfold followN growN goneAt;rw[Q9 Aa,Q9 Aa,QU (.inr K),b,restsN_eq (g:=dZ m) (λr hr'=>find_rest T (R r hr') (hrid r hr')),cutsN_eq (g:=fZ e m) (λc l=>find_piece T (Q c l) rfl),TR];simp[Q9 (show¬e.kind=8 from Aa)];rfl
  rw[O];have D:=P.br m (fC t);have E:=h.own x (fC b);have ai:1<=e.id:=by rw[<-i,<-B];exact E.1
  have U:x.id=e.id:=by rw[B,i]
  have ac:=λr (hr':r∈e.rests)=>dB6 (hv m (fC t)) (d.2.1 r hr').1 (tZ I r hr');unfold nJ at hl;have a1:R6 (subL (gG m) (e.cuts.map Made.size)):=bK7 _ _ D
  obtain⟨p1,p2,p3⟩:=bY2 _ _ a1 (λc l=>by
   obtain⟨x,L,rfl⟩:=Rn.1 l;obtain⟨r,b,rfl,A⟩:=yU I L;exact(yP A (cM1 D)).1) (by have:=d.2.2.2.2.1;omega)
  let⟨q1,q2,q3⟩:=bY2 _ _ D (λc l=>by
   obtain⟨x,L,rfl⟩:=Rn.1 l;have:=(d.1 x L).2.2;omega) p2
  have al:x.size=gG m:=by rw[A];exact(nodeOf_gone m _).2.2.2.2
  have u:=nodeOf_grade m x.parent;rw[<-A]at u;have V:=nodeOf_kind m x.parent;rw[<-A]at V
  have J:((e.cuts.map (λc=>pieceN (fZ e m c) e.id)++e.rests.map λr=>nodeOf (dZ m r) e.id).map Node.size).sum=(e.cuts.map Made.size).sum+((eG m e.rests).map gG).sum:=by
   rw[RH,List.sum_append,TI,TI,mV I,TI];congr 2;exact Ti λr _=>(nodeOf_gone _ _).2.2.2.2
  have G:(e.cuts.map (λc=>pieceN (fZ e m c) e.id)++e.rests.map λr=>nodeOf (dZ m r) e.id).map Node.id=fO e:=La
  have ad:0<=((eG m e.rests).map gG).sum:=by
   refine sum_nonneg λz F=>?_;obtain⟨y,a,rfl⟩:=Rn.1 F;obtain⟨r,b,rfl,A⟩:=yU I a;exact(yP A (cM1 D)).1
  have ae:0<=(e.cuts.map Made.size).sum:=by
   refine sum_nonneg λz F=>?_;obtain⟨y,a,rfl⟩:=Rn.1 F;have:=(d.1 y a).2.2;omega
  refine tree_gone (s':=cut5 s e k m) h S t b B A (by rw[G];rfl) (by rw[G];exact ab) (λy a=>?_) ⟨d.2.2.2.2.1,by rw[J];omega,Aa⟩ (λy a=>by rw[w];exact aE5.2 (.inl a)) (λy a=>?_) (λp j=>by rw[v];exact aE5.2 (.inl j)) (λp j=>?_) (λz F=>?_) rfl;rcases Rh.1 a with a|a;obtain⟨c,l,rfl⟩:=Rn.1 a;have C:=d.1 c l;have aj:=q3 c.size (RD l);refine⟨⟨C.1.1,show(1:Int)<=3 from Ai,show(3:Int)<=3 from Ai,C.2.2,by show c.size<=_;have:=E.2.2.2.2.1;omega,TB 0,by show 0<=c.size;have:=C.2.2;omega,λ_=>rfl,λ_=>⟨C.2.1,by show e.id≠0;omega,rfl⟩,λq=>absurd rfl q,by show 0<=e.id;omega⟩,U.symm,rfl,?_,?_, .inl rfl⟩;exact u.1;exact u.2;obtain⟨r,hr',rfl⟩:=Rn.1 a;let⟨b1,b2,b3,b4,b5,b6,b7⟩:=ac r hr';let⟨g1,W,X,g4,Y⟩:=nodeOf_gone (dZ m r) e.id;have gk:=nodeOf_kind (dZ m r) e.id;have Z:=nodeOf_grade (dZ m r) e.id;rw[b2]at gk Z;have gp:=stock_pos b1 (fZ0 (hb m (fC t)) (tZ I r hr'));have ah:(nodeOf (dZ m r) e.id).kind=1\/(nodeOf (dZ m r) e.id).kind=2:=Ie;refine⟨⟨by rw[nodeOf_id,hrid r hr'];exact(d.2.1 r hr').1.1,Aa,Aa,by rw[Y];exact gp.1,by rw[Y];exact gp.2,by rw[W];exact TB 0,by rw[W,Y];omega,λ_=>W,λq=>Aa,λ_=>g4,by rw[X];omega⟩,by rw[X,U],rfl,?_,?_, .inr ?_⟩;rw[Z.1,b4,b6];exact u.1;rw[Z.2,b5,b7];exact u.2;rw[gk];exact V.symm;rw[w]at a;rcases aE5.1 a with a|a;exact .inl a;obtain⟨r,q1,rfl,q3⟩:=yU I a;exact .inr ⟨e.id,Rh.2 (.inr (RD q1))⟩;rw[v]at j;rcases aE5.1 j with j|j;exact .inl j;obtain⟨c,l,rfl⟩:=Rn.1 j;exact .inr (Rh.2 (.inl (RD l)));rcases Rh.1 F with F|F;obtain⟨c,l,rfl⟩:=Rn.1 F;exact⟨rfl,λq=>absurd rfl q,λ_=>⟨fZ e m c,Q c l,rfl⟩⟩;obtain⟨r,hr',rfl⟩:=Rn.1 F;let⟨g1,W,X,g4,Y⟩:=nodeOf_gone (dZ m r) e.id;have gk:=nodeOf_kind (dZ m r) e.id;exact⟨g1,λ_=>⟨dZ m r,R r hr',by rw[X]⟩,λq=>by rw[gk]at q;split at q<;>omega⟩
def tree_all:∀ l  s  f  n,Tree s f->Good s n->Vs s->Bd s->Acc56 s l->Tree (finI s l) (finF s f l)/\Good (finI s l) (n+moreL l)/\Bd (finI s l)
 | [],s,f,n,h,a,_,g,_=>⟨h,a,g⟩
 |e::l,s,f,n,h,a,hv,g,i=>by
  let⟨k,j⟩:=aZ6 a.ok i.1;have c:=good_step a i.1;have d:=eP3 hv j;have b:=gI7 g j;have:=tree_all l _ _ _ (tree_step h a.ok hv g a.bal a.ids k j c.ok d b) c d b i.2;rw[show n+moreL (e::l)=n+more e+moreL l by unfold moreL;simp;omega];exact this
def climb_rank{f:List Node}{r:Int->Nat}(i:SortN f)(g:∀x∈f,x.parent≠0->∃p∈f,p.id=x.parent/\linkN x p)(b:∀x∈f,x.parent≠0->r x.parent<r x.id):∀(k:Nat) (x:Node),x∈f->r x.id<=k->climbR f k x=true
 |0,x,a,h=>by
  unfold climbR;refine decide_eq_true ?_;by_cases c:x.parent=0;exact c;have:=b x a c;omega
 |k+1,x,a,h=>by
  unfold climbR;by_cases c:x.parent=0;rw[QU c];obtain⟨p,d,e,_⟩:=g x a c;have j:=b x a c;rw[Q9 c,<-e,getN_some i d];exact climb_rank i g b k p d (by rw[e];omega)
def right_tree(h:Tree s f)(w:Ok s n):RightF f:=by
 have m:=tree_sorted h w;let⟨r,o⟩:=h.rank
 exact⟨λx l=>by
  let⟨a,b,c,d,_,e,g,i,j,k,_⟩:=h.own x l;exact⟨a,b,c,d,e,g,i,j,k⟩,m,λx l q=>by
  let⟨p,t,u,v⟩:=h.par x l q;exact⟨p,by rw[<-u];exact getN_some m t,v⟩,λx l=>climb_rank m h.par (λx l=>(o x l).2) _ x l (Uf (o x l).1),h.sum⟩
structure Fin57(E:List Event)(s:aJ)(f:List Node):Prop where
 tr:Tree s f
 gd:Good s 336
 rt:RightF f
 ln:f.length<=336
 bl:Sp 7 [.sl (E.map aS)] (.tup [.own 40 (f.map nodeV),I E.length,I 0])
def fin_of(h:AccE l E):Fin57 E (finI inv0 E) (finF inv0 [] E):=by
 let⟨a,b,c⟩:=tree_all E inv0 [] 0 tree0 cN2 vs0 bd0 h.ac;have i:=h.mr;have d:Good (finI inv0 E) 336:=b.mono Aa;have e:E.take E.length=E:=TM;have g:=bld_take h E.length;have f:=(fo_take h E.length).2.2;rw[e]at g f;exact⟨a,d,right_tree a d.ok,f,g⟩
def tree_sz(h:Tree s f):SzN f:=λx a=>by
 have:=(h.own x a).2.2.2.2.1;omega
def replay_acc:∀(l:List Event) (s:aJ) (i:Int),Acc56 s l->kL s i l=(finI s l,i+l.length,0)
 | [],s,i,_=>by
   show(s,i,(0:Int))=(s,i+((0:Nat):Int),0);rw[Int.natCast_zero,Us]
 |e::l,s,i,h=>by
  rw[kL,QU h.1,replay_acc l _ _ h.2];exact P7
def rep_of{l E:List Event}(h:AccE l E):Sp 8 [.sl (E.map aS)] (.tup [invV (finI inv0 E),I E.length,I 0]):=by
 have a:=h.ln;have b:=h.mr;have g:=vX E h.sz Aa Aa;rw[replay_acc E inv0 0 h.ac,U7]at g;exact g
def sort_eq:∀ {a b:List Int},a.Pairwise (·<·)->b.Pairwise (·<·)->(∀x,x∈a↔x∈b)->a=b
 | [],[],_,_,_=>rfl
 | [],y::b,_,_,h=>absurd ((h y).2 Ad) Ad
 |x::a,[],_,_,h=>absurd ((h x).1 Ad) Ad
 |x::a,y::b,c,d,h=>by
  rw[S9]at c d
  have e:x=y:=by
   rcases Rl.1 ((h x).1 Ad)with q|q;exact q;rcases Rl.1 ((h y).2 Ad)with r|r;exact r.symm;have:=d.1 x q;have:=c.1 y r;omega
  subst e;rw[sort_eq c.2 d.2 λz=>⟨λq=>?_,λq=>?_⟩];have:=c.1 z q;rcases Rl.1 ((h z).1 (RZ _ q))with r|r;omega;exact r;have:=d.1 z q;rcases Rl.1 ((h z).2 (RZ _ q))with r|r;omega;exact r
def leftN(f:List Node):Nat:=(f.filter λx=> !x.gone).length
def left_snoc(D:List Node)(x:Node):(leftN (D++[x]):Int)=leftN D+if x.gone=true then 0 else 1:=by
 unfold leftN;rw[List.filter_append,QY];cases h:x.gone<;>simp[h]
def left_split:∀ {f:List Node},(∀x∈f,x.kind=3->x.gone=false)->leftN f=(f.filter λx=> !x.gone&&decide (x.kind≠3)).length+(f.filter λx=>decide (x.kind=3)).length
 | [],_=>rfl
 |x::f,h=>by
  have d:=left_split (f:=f) λy hy=>h y Gt;have b:=h x Ad;unfold leftN at*;by_cases c:x.kind=3;have:=b c;simp[c,this]at*;omega;cases a:x.gone<;>simp[c,a]at* <;>omega
def left_len{s:aJ}{f:List Node}{n:Nat}(h:Tree s f)(g:Ok s n):leftN f=s.stocks.length+s.pieces.length:=by
 have o:=tree_sorted h g;have d:∀p:Node->Bool,((f.filter p).map Node.id).Pairwise (·<·):=λp=>o.sublist (List.filter_sublist.map _)
 have l:(f.filter λx=> !x.gone&&decide (x.kind≠3)).map Node.id=s.stocks.map sid:=sort_eq (d _) g.ss λz=>by
  constructor;intro q;obtain⟨x,a,rfl⟩:=Rn.1 q;rw[List.mem_filter]at a;obtain⟨a,b⟩:=a;simp only[Ru,UM,decide_eq_true_eq]at b;obtain⟨y,i,e⟩:=h.st x a b.1 b.2;rw[<-e,nodeOf_id];exact RD i;intro q;obtain⟨y,i,rfl⟩:=Rn.1 q;obtain⟨p,c⟩:=h.ts y i;refine Rn.2 ⟨_,List.mem_filter.2 ⟨c,?_⟩,nodeOf_id y p⟩;rw[(nodeOf_gone y p).1,nodeOf_kind];cases y.isBar<;>simp
 have m:(f.filter λx=>decide (x.kind=3)).map Node.id=s.pieces.map Piece.id:=sort_eq (d _) g.sp λz=>by
  constructor;intro q;obtain⟨x,a,rfl⟩:=Rn.1 q;rw[List.mem_filter,decide_eq_true_eq]at a;obtain⟨p,c,e⟩:=h.pc x a.1 a.2;rw[<-e];exact RD c;intro q;obtain⟨p,c,rfl⟩:=Rn.1 q;exact Rn.2 ⟨_,List.mem_filter.2 ⟨h.tp p c,by simp[pieceN]⟩,rfl⟩
 have j:=RI List.length l;have k:=RI List.length m;rw[Rw,Rw]at j k;rw[left_split λx a b=>((h.own x a).2.2.2.2.2.2.2.2.1 b).2.2,j,k]
theorem rsum_snoc(b:Bool)(D:List Node)(x:Node):rsum b (D++[x])=rsum b D+if x.parent=0/\(x.kind=2↔b=true)then x.size else 0:=by
 unfold rsum;rw[RH,List.sum_append];simp
def rsum_w(b:Bool)(D:List Node)(x:Node):W (rsum b (D++[x]))=if x.parent=0/\(x.kind=2↔b=true)then W (W (rsum b D)+x.size)else W (rsum b D):=by
 rw[rsum_snoc,bF8];split;rfl;rw[Us]
def node_piece{s:aJ}{f:List Node}{n:Nat}(h:Tree s f)(c:Ok s n){x:Node}(d:x∈f)(b:x.kind=3):(∃m∈s.pieces,m.id=x.id)/\(bF0 s x.id).size=x.size/\(bF0 s x.id).part=x.part/\(bF0 s x.id).parent=x.parent/\(bF0 s x.id).heat=x.heat:=by
 obtain⟨p,a,e⟩:=h.pc x d b;have hi:p.id=x.id:=by rw[<-e];rfl
 rw[find_piece c a hi];exact⟨⟨p,a,hi⟩,by rw[<-e];exact⟨rfl,rfl,rfl,rfl⟩⟩
def node_stock{s:aJ}{f:List Node}{n:Nat}(h:Tree s f)(d:Ok s n){x:Node}(g:x∈f)(b:x.gone=false)(c:x.kind≠3):(∃m∈s.stocks,sid m=x.id)/\gG (bF5 s x.id)=x.size/\(bF5 s x.id).isBar=decide (x.kind=2):=by
 obtain⟨y,a,e⟩:=h.st x g b c;have hi:sid y=x.id:=by rw[<-e,nodeOf_id]
 rw[find_rest d a hi];refine⟨⟨y,a,hi⟩,by rw[<-e];exact((nodeOf_gone y _).2.2.2.2).symm,?_⟩;rw[<-e,nodeOf_kind];cases y.isBar<;>simp
abbrev h1B:ByteArray:={data:= #[104,49]}
def lawLedger_spec(l:List Event)(i:Sp 4 [] (.lit (.bool true)))(hl:l.length<=9223372036854775807)(L:∀e∈l,bI1 e):Sp 3 [.sl (l.map aS)] (.lit (.bool true)):=by
 refine zsp Tryz.func3 ?_;have K:=aS2 l 16 hl L;by_cases hf:fewL l 16;rotate_left
 ·repeat' ((conv=>whnf);first|(exfalso;contradiction)|refine zc i ?_|refine zc K ?_|refine zS ?_|refine zm (λx hx=>?_)|refine zT ?_ ?_<;>intro _|fail)
  all_goals exact zE
 obtain⟨z,X⟩:=acc_of L hf;have b:=fin_of z;have Z:=rep_of z;generalize okEv inv0 l=E at*;generalize finF inv0 [] E=f at*;generalize finI inv0 E=s at*;have Y:=b.bl;have ac:=b.ln;have aa:=z.ln;have ad:(f.map nodeV).length=f.length:=Ad;have ab:(E.map aS).length=E.length:=Ad;repeat' ((conv=>whnf);first|(exfalso;contradiction)|refine zc i ?_|refine zc K ?_|refine zc X ?_|refine zc Y ?_|refine zc Z ?_|refine zS ?_|refine zm (λx hx=>?_)|refine zT ?_ ?_<;>intro _|fail)
 all_goals conv=>whnf
 have j:=b.tr.rc;have a:=b.gd;refine aU (A:=List Node) (B:=List Node) (λD R=>mkSt [(4, .sl (f.map nodeV)),(7, .box 7 0),(10, .box 10 0),(11,I (leftN D)),(12,I (heatL h1B D).length),(13,I D.length)] [(7,invC s),(10,[I (W (rsum false D)),I (W (rsum true D))])] []) (λD R=>f=D++R) (λD R=>R.length) [] f ?_ rfl (λD R hp=>?_);refine Le.trans (fB (k:=28) rfl (.inl rfl)) ?_;exact zj;cases R with
 |nil=>
  have h1:f.length=D.length:=Ae;have g5:=heatY_spec f h1B Aa (tree_sz b.tr) b.rt;have T:D=f:=Ae;rw[T];have e1:W (rsum false f)=s.received.1:=j false;have U:W (rsum true f)=s.received.2:=j true;have V:(leftN f:Int)=s.stocks.length+s.pieces.length:=by rw[left_len b.tr a.ok];simp
  have e4:s.stocks.length<=1000/\s.pieces.length<=1000:=⟨Rz a.ok.ls Aa,Rz a.ok.lp Aa⟩;have e5:W (((s.stocks.map aQ).length:Int)+((s.pieces.map aZ).length:Int))=s.stocks.length+s.pieces.length:=by rw[Rw,Rw];exact w_in (by omega)
  rw[e1,U,V];have hr:andB (eqB s.received.1 s.received.1) (andB (eqB s.received.2 s.received.2) true)=true:=by simp[andB,eqB]
  repeat' ((conv=>whnf);first|omega|refine zc g5 ?_|(refine jU (λ_=>?_) (λd=>?_);rotate_left;(exfalso;rw[hr]at d;cases d))|refine zS ?_|refine zm (λx hx=>?_)|refine zT ?_ ?_<;>intro _|fail)
  all_goals conv=>whnf
  exact aK (aA1.2 Ad)
 |cons x R=>
  have h1:=aO hp;have hx:x∈f:=Ae;repeat' ((conv=>whnf);first|omega|refine aB (l:=f) Aa ?_|refine aF (l:=f) (A:=D) (x:=x) (B:=R) hp Aa ?_|refine zU ?_|refine zm (λx hx=>?_)|refine zT ?_ ?_<;>intro _|fail)
  refine eY7 ?_;repeat' ((conv=>whnf);first|omega|refine aF (l:=f) (A:=D) (x:=x) (B:=R) hp Aa ?_|refine zU ?_|refine zm (λx hx=>?_)|refine zT ?_ ?_<;>intro _|fail)
  refine eY7 ?_;repeat' ((conv=>whnf);first|omega|refine aF (l:=f) (A:=D) (x:=x) (B:=R) hp Aa ?_|refine zU ?_|refine zm (λx hx=>?_)|refine zT ?_ ?_<;>intro _|fail)
  refine eY7 ?_;repeat' ((conv=>whnf);first|omega|refine aF (l:=f) (A:=D) (x:=x) (B:=R) hp Aa ?_|refine zU ?_|refine zm (λx hx=>?_)|refine zT ?_ ?_<;>intro _|fail)
  refine eY7 ?_;repeat' ((conv=>whnf);first|omega|refine aF (l:=f) (A:=D) (x:=x) (B:=R) hp Aa ?_|refine zU ?_|refine zm (λx hx=>?_)|refine zT ?_ ?_<;>intro _|fail)
  all_goals conv=>whnf
  have r:=b.tr.own x hx;have C:=r.2.2.2.2.2.2.2.2.1;refine dJ4 Unit (λ_=>mkSt [(4, .sl (f.map nodeV)),(7, .box 7 0),(10, .box 10 0),(11,I (leftN D)),(12,I (heatL h1B D).length),(13,I D.length),(14, .box 14 0)] [(7,invC s),(10,[I (W (rsum false (D++[x]))),I (W (rsum true (D++[x])))]),(14,nodeC x)] []) (λ_=>True) ?_ ?_
  ·have r1:=rsum_w false D x
   have r2:=rsum_w true D x;by_cases o:x.parent=0;by_cases hk:x.kind=2;rw[Q9 I9]at r1;rw[QU ⟨o,I9⟩]at r2;have e1:IntKind.i64.wrap (x.kind-1)=1:=by rw[hk];rfl
   exact Oe;rw[QU ⟨o,I9⟩]at r1;rw[Q9 I9]at r2
   have e1:IntKind.i64.wrap (x.kind-1)=0:=by
    have:x.kind=1:=by
     have:=r.2.1;have:=r.2.2.1;by_cases c:x.kind=3;exact absurd o (C c).2.1;omega
    rw[this];rfl
   exact Oe;rw[Q9 (λq=>o q.1)]at r1 r2;repeat' ((conv=>whnf);first|(exfalso;contradiction)|refine zS ?_|refine zm (λx hx=>?_)|refine zT ?_ ?_<;>intro _|fail)
   all_goals conv=>whnf
   refine⟨(),?_,trivial⟩;rw[r1,r2];exact zj
  intro _ _;have r3:=left_snoc D x;have w:=heat_snoc h1B D x;cases g:x.gone with
  |true=>
   have F:x.kind≠3:=kind3 r g;rw[g,QU rfl,Us]at r3;have r5:heatL h1B (D++[x])=heatL h1B D:=by rw[w,Q9 (λq=>F (dH.1 q).1),Rq]
   have n:nodeC x=[I x.id,I x.kind,I x.parent,S x.grade,S x.heat,S x.part,I x.size,B true,I x.scrap] :=by rw[<-g];rfl
   rw[n];repeat' ((conv=>whnf);first|(exfalso;contradiction)|refine zS ?_|refine zm (λx hx=>?_)|refine zT ?_ ?_<;>intro _|fail)
   all_goals conv=>whnf
   exact NY
  |false=>
   rw[g,Q9 Ad]at r3;have hL:leftN D<=D.length:=U0 _ _;have hH:(heatL h1B D).length<=D.length:=Dw;have l1:=a.ok.ls;have l2:=a.ok.lp;have gP:=bG3 s x.id Aa;have gS:=bH9 s x.id Aa;by_cases hk:x.kind=3;obtain⟨J,t,u,v,P⟩:=node_piece b.tr a.ok hx hk;rw[dbT J]at gP;have n:nodeC x=[I x.id,I 3,I x.parent,S x.grade,S x.heat,S x.part,I x.size,B false,I x.scrap] :=by rw[<-g,<-hk];rfl
   rw[n];generalize bF0 s x.id=p at*;obtain⟨af,O,H,ae,G,ah,M,ag,N⟩:=p;simp only at t u v P;rw[t,u,v,P]at gP;generalize bF5 s x.id=y at*;generalize (∃m∈s.stocks,sid m=x.id)=Q at*;by_cases d:x.heat=h1B;have r5:((heatL h1B (D++[x])).length:Int)=(heatL h1B D).length+1:=by rw[w,QU (dH.2 ⟨hk,d⟩)];simp
   exact NM;have r5:heatL h1B (D++[x])=heatL h1B D:=by rw[w,Q9 (λq=>d (dH.1 q).2),Rq]
   exact NM;obtain⟨J,t,u⟩:=node_stock b.tr a.ok hx g hk;rw[dbT J]at gS;have gZ:=vF (bF5 s x.id) (find_sized a.ok x.id);rw[t]at gZ;have n:nodeC x=[I x.id,I x.kind,I x.parent,S x.grade,S x.heat,S x.part,I x.size,B false,I x.scrap] :=by rw[<-g];rfl
   rw[n];generalize bF5 s x.id=y at*;generalize bF0 s x.id=p at*;generalize (∃m∈s.pieces,m.id=x.id)=Q at*
   have v:eqBB y.isBar (eqB x.kind 2)=true:=by
    rw[u];by_cases c:x.kind=2<;>simp[c,eqBB,eqB]
   have r5:heatL h1B (D++[x])=heatL h1B D:=by rw[w,Q9 (λq=>hk (dH.1 q).1),Rq]
   repeat' ((conv=>whnf);first|(exfalso;contradiction)|omega|refine zc gP ?_|refine zc gS ?_|refine zc gZ ?_|refine eZ1 Ak ?_|refine eZ2 ?_|(refine jU (λ_=>?_) (λd=>?_);rotate_left;(exfalso;rw[v]at d;cases d))|refine zS ?_|refine zm (λx hx=>?_)|refine zT ?_ ?_<;>intro _|fail)
   all_goals conv=>whnf
   exact NY
end Go.Proofs.Led
