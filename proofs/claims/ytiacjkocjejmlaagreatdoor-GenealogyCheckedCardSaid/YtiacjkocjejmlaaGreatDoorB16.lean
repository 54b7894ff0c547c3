/- Lemmas. -/
import Derived.Test.YtiacjkocjejmlaaGreatDoorB11
import Derived.Test.YtiacjkocjejmlaaGreatDoorB17
import Derived.Test.YtiacjkocjejmlaaGreatDoorB13
set_option linter.all false
set_option autoImplicit true
set_option relaxedAutoImplicit true
set_option maxRecDepth 100000
set_option maxHeartbeats 8000000
noncomputable section
namespace Go.Proofs.Led
open Go Go.Proofs Go.Ab
def ownN(x:Node):Prop:=1<=x.id/\1<=x.kind/\x.kind<=3/\1<=x.size/\x.size<=100000000000000/\0<=x.scrap/\x.scrap<=x.size/\(x.gone=false->x.scrap=0)/\
 (x.kind=3->iM x.part/\x.parent≠0/\x.gone=false)/\(x.kind≠3->x.part=aI)/\0<=x.parent
def rsum(b:Bool)(f:List Node):Int:=(f.map λx=>if x.parent=0/\(x.kind=2↔b=true)then x.size else 0).sum
structure Tree(s:aJ)(f:List Node):Prop where
 ids:f.map Node.id=s.used
 own:∀x∈f,ownN x
 par:∀x∈f,x.parent≠0->∃p∈f,p.id=x.parent/\linkN x p
 sum:∀g∈f,g.gone=true->ksum f g.id=g.size-g.scrap
 rank:∃r:Int->Nat,∀x∈f,r x.id<f.length/\(x.parent≠0->r x.parent<r x.id)
 st:∀x∈f,x.gone=false->x.kind≠3->∃y∈s.stocks,nodeOf y x.parent=x
 pc:∀x∈f,x.kind=3->∃p∈s.pieces,pieceN p p.parent=x
 ts:∀y∈s.stocks,∃p,nodeOf y p∈f
 tp:∀p∈s.pieces,pieceN p p.parent∈f
 rc:∀b,W (rsum b f)=cls b s.received
def tree0:Tree inv0 []where
 ids:=rfl
 own:=Ad
 par:=Ad
 sum:=Ad
 rank:=⟨λ_=>0,Ad⟩
 st:=Ad
 pc:=Ad
 ts:=Ec
 tp:=Ec
 rc:=λb=>by cases b<;>decide
def ksum_put f i x n:ksum (putAt f i x) n=ksum f n+if x.parent=n then x.size else 0:=bU2 _ _ _ _
theorem ksum_fold n:∀ xs f,ksum (xs.foldl addN f) n=ksum f n+ksum xs n
 | [],f=>by show ksum f n=ksum f n+0;omega
 |x::xs,f=>by
  rw[RJ,ksum_fold n xs,show ksum (addN f x) n=_ from ksum_put _ _ _ _,show ksum (x::xs) n=(if x.parent=n then x.size else 0)+ksum xs n from by unfold ksum;simp];omega
def ksum_none(h:∀x∈f,x.parent≠n):ksum f n=0:=by
 unfold ksum;induction f with
 |nil=>rfl
 |cons x f a=>rw[QZ,RN,Q5 (h x Ad),a (λy hy=>h y GU)];rfl
def ksum_all(h:∀x∈f,x.parent=n):ksum f n=(f.map Node.size).sum:=by
 unfold ksum;induction f with
 |nil=>rfl
 |cons x f a=>rw[QZ,RN,Q9 (h x Ad),a (λy hy=>h y GU),QZ,RN]
def rsum_put b f i x:rsum b (putAt f i x)=rsum b f+if x.parent=0/\(x.kind=2↔b=true)then x.size else 0:=bU2 _ _ _ _
def rsum_fold b:∀(xs f:List Node),(∀x∈xs,x.parent≠0)->rsum b (xs.foldl addN f)=rsum b f
 | [],f,_=>rfl
 |x::xs,f,h=>by
  rw[RJ,rsum_fold b xs _ (λy hy=>h y GU),show rsum b (addN f x)=_ from rsum_put _ _ _ _,Q5 (λq=>h x Ad q.1),U4]
def tree_sorted(h:Tree s f)(a:Ok s n):(f.map Node.id).Pairwise (·<·):=by
 have:=a.su;rw[List.map_id]at this;rw[h.ids];exact this
def mem_id(h:Tree s f)(hx:x∈f):x.id∈s.used:=Gu
def no_kids(h:Tree s f)(d:Ok s n)(a:x∈f)(c:x.gone=false):∀y∈f,y.parent≠x.id:=by
 intro y j e;have i:=(h.own x a).1;let⟨p,g,k,b⟩:=h.par y j Aa;have:p=x:=bB9 (tree_sorted h d) g a Aa;subst this;exact Bool.noConfusion (c.symm.trans b.1)
def fresh_node(h:Tree s f)(hi:i∉s.used)(a:x∈f):x.id≠i:=λe=>hi (by rw[<-e];exact mem_id h a)
def par_used(h:Tree s f)(c:x∈f)(a:x.parent≠0):x.parent∈s.used:=by
 let⟨p,b,e,_⟩:=h.par x c a;rw[<-e];exact mem_id h b
def tree_recv(h:Tree s f)(L:Ok s n)(C:sid x∉s.used)(F:1<=sid x)(B:1<=gG x/\gG x<=100000000000000):Tree (aX7 s x) (addN f (nodeOf x 0)):=by
 let⟨D,w,m,E,v⟩:=nodeOf_gone x 0;have A:=nodeOf_id x 0;have gk:=nodeOf_kind x 0;have K:(nodeOf x 0).kind=1\/(nodeOf x 0).kind=2:=Ic;have c:∀ {y},y∈addN f (nodeOf x 0)↔y=nodeOf x 0\/y∈f:=fH
 have u:ownN (nodeOf x 0):=by
  refine⟨by rw[A];exact F,Aa,Aa,by rw[v];exact B.1,by rw[v];exact B.2,by rw[w];exact Tq 0,by rw[w,v];omega,λ_=>w,λe=>Aa,λ_=>E,by rw[m];exact Tq 0⟩
 have q:(addN f (nodeOf x 0)).length=f.length+1:=mQ;refine⟨?_,?_,?_,?_,?_,?_,?_,?_,?_,?_⟩;rw[addN_ids,h.ids,A];rfl;intro y a;rcases c.1 a with rfl|a;exact u;exact h.own y a;intro y a d;rcases c.1 a with rfl|a;exact absurd m d;let⟨p,l,e⟩:=h.par y a d;exact⟨p,c.2 (.inr l),e⟩;intro g o j;rcases c.1 o with rfl|o;rw[D]at j;cases j;have:=(h.own g o).1;rw[show ksum (addN f (nodeOf x 0)) g.id=_ from ksum_put _ _ _ _,m,Q5 Aa,U4];exact h.sum g o j;let⟨r,G⟩:=h.rank;refine⟨λi=>if i=sid x then f.length else r i,λy a=>?_⟩;rw[q];rcases c.1 a with rfl|a;rw[A];exact⟨Ad,λd=>absurd m d⟩;have t:=fresh_node h C a;let⟨M,I⟩:=G y a;refine⟨by simp[Q5 t];omega,λd=>?_⟩;have l:y.parent≠sid x:=λe=>C (by rw[<-e];exact par_used h a d);simp[Q5 t,Q5 l];exact I d;intro y a o k;rcases c.1 a with rfl|a;exact⟨x,fH.2 (.inl rfl),by rw[m]⟩;let⟨z,H,e⟩:=h.st y a o k;exact⟨z,fH.2 (.inr H),e⟩;intro y a k;rcases c.1 a with rfl|a;omega;exact h.pc y a k;intro y a;rcases fH.1 a with rfl|a;exact⟨0,c.2 (.inl rfl)⟩;let⟨p,l⟩:=h.ts y a;exact⟨p,c.2 (.inr l)⟩;exact λp l=>c.2 (.inr (h.tp p l));intro b;show W (rsum b (addN f (nodeOf x 0)))=cls b (plus x.isBar s.received (gG x));rw[show rsum b (addN f (nodeOf x 0))=_ from rsum_put _ _ _ _,rX,<-h.rc b,m,gk,v];cases J:x.isBar<;>cases b<;>simp[bF8]
def tree_set(h:Tree s f)(hm:s.stocks[k]? =some m) p:Tree (setK s k (prog m p)) f where
 ids:=h.ids
 own:=h.own
 par:=h.par
 sum:=h.sum
 rank:=h.rank
 st:=λx hx hg hk=>by
  let⟨y,hy,e⟩:=h.st x hx hg hk;by_cases c:y=m;subst c;exact⟨prog y p,cB8 hm,e⟩;exact⟨y,bN9 hm hy c,e⟩
 pc:=h.pc
 ts:=λy hy=>by
  rcases mem_set hy with rfl|hy;exact h.ts m (fC hm);exact h.ts y hy
 tp:=h.tp
 rc:=h.rc
def tree_setP(h:Tree s f)(hm:s.pieces[k]? =some m) st o:Tree (setP s k (marked m st o)) f where
 ids:=h.ids
 own:=h.own
 par:=h.par
 sum:=h.sum
 rank:=h.rank
 st:=h.st
 pc:=λx hx hk=>by
  let⟨y,hy,e⟩:=h.pc x hx hk;by_cases c:y=m;subst c;exact⟨marked y st o,cB8 hm,e⟩;exact⟨y,bN9 hm hy c,e⟩
 ts:=h.ts
 tp:=λy hy=>by
  rcases mem_set hy with rfl|hy;exact h.tp m (fC hm);exact h.tp y hy
 rc:=h.rc
def mem_out{z:b}(a:l[j]? =some z)(h:j≠k):z∈nN l k:=by
 unfold nN;rw[QV];rcases Nat.lt_or_gt_of_ne h with c|c;exact .inl (List.mem_iff_getElem?.2 ⟨j,by rw[TP,Q9 c];exact a⟩);refine .inr (List.mem_iff_getElem?.2 ⟨j- (k+1),?_⟩);rw[Si,show k+1+(j- (k+1))=j from Aa];exact a
def ksum_set{sc n}(a:f[i]? =some x):ksum (f.set i (goneN x sc)) n=ksum f n:=dF7 _ a rfl
def rsum_set{sc}(a:f[i]? =some x):rsum b (f.set i (goneN x sc))=rsum b f:=dF7 _ a rfl
def stock_node(h:Tree s f)(d:Ok s n)(g:m∈s.stocks):∃x,f[bs Node.id f (sid m)]? =some x/\x.id=sid m/\x=nodeOf m x.parent:=by
 let⟨p,e⟩:=h.ts m g;have a:∃y∈f,y.id=sid m:=⟨_,e,nodeOf_id m p⟩;let⟨x,b,c⟩:=aB8 (tree_sorted h d) a;refine⟨x,b,c,?_⟩;have:x=nodeOf m p:=bB9 (tree_sorted h d) (fC b) e (by rw[c,nodeOf_id]);rw[this,(nodeOf_gone m p).2.2.1]
def tree_gone{f xs:List Node}{sc}(h:Tree s f)(R:Ok s n)(Z:s.stocks[k]? =some m)(hi:f[i]? =some x)(hx:x.id=sid m)(L:x=nodeOf m x.parent)
 (hu:s'.used=cO s.used (xs.map Node.id))(hf:dP s.used (xs.map Node.id))(C:∀y∈xs,ownN y/\y.parent=x.id/\linkN y (goneN x sc))(E:0<=sc/\sc=x.size- (xs.map Node.size).sum/\sc<=x.size)
 (T:∀y∈nN s.stocks k,y∈s'.stocks)(K:∀y∈s'.stocks,y∈nN s.stocks k\/∃p,nodeOf y p∈xs)(S:∀p∈s.pieces,p∈s'.pieces)(J:∀p∈s'.pieces,p∈s.pieces\/pieceN p p.parent∈xs)
 (F:∀z∈xs,z.gone=false/\(z.kind≠3->∃y∈s'.stocks,nodeOf y z.parent=z)/\(z.kind=3->∃p∈s'.pieces,pieceN p p.parent=z))(hr:s'.received=s.received):Tree s' (xs.foldl addN (f.set i (goneN x sc))):=by
 have hs:=tree_sorted h R;have hxf:=fC hi;let⟨g1,g2,g3,X,g5⟩:=nodeOf_gone m x.parent;rw[<-L]at g1 g2 X g5;have gk:=nodeOf_kind m x.parent;rw[<-L]at gk;have B:x.kind≠3:=Ic;have c:=h.own x hxf;have d:(f.set i (goneN x sc)).map Node.id=f.map Node.id:=bY6 hi rfl;let⟨W,f2⟩:=qJ.1 hf
 have w:=bE9 (key:=Node.id) (xs:=xs) (l:=f.set i (goneN x sc)) (by rw[d];exact hs) (λz U y a e=>by
  have h1:y.id∈s.used:=by rw[<-h.ids,<-d];exact Rt a
  exact W z.id (Rt U) (by rw[<-e];exact h1)) f2
 have hfold:=λy=>by
  have:=w.2.1 y;rw[set_mem hs hi]at this;rw[or_assoc]at this;exact this
 have I:(xs.foldl addN (f.set i (goneN x sc))).length=f.length+xs.length:=by
  have:=w.2.2;rw[Tf]at this;exact this
 have M:=(hfold _).2 (.inl rfl);have Q:∀y∈xs,y.id∉s.used:=λy a=>W y.id (Rt a);have P:=no_kids h R hxf g1;refine⟨?_,?_,?_,?_,?_,?_,?_,?_,?_,?_⟩
 ·rw[fold_ids,d,h.ids,hu]
 ·intro y a
  rcases(hfold y).1 a with rfl|⟨a,_⟩|a
  ·exact⟨c.1,c.2.1,c.2.2.1,c.2.2.2.1,c.2.2.2.2.1,E.1,E.2.2,λq=>EP,λq=>absurd q B,λ_=>X,c.2.2.2.2.2.2.2.2.2.2⟩
  ·exact h.own y a
  ·exact(C y a).1
 ·intro y a t
  rcases(hfold y).1 a with rfl|⟨a,_⟩|a
  ·let⟨p,hp,e1,e2⟩:=h.par x hxf t
   exact P9
  ·let⟨p,hp,e1,e2⟩:=h.par y a t
   exact P9
  ·exact⟨goneN x sc,M,(C y a).2.1.symm,(C y a).2.2⟩
 ·intro g v A
  rw[ksum_fold,ksum_set hi];rcases(hfold g).1 v with rfl|⟨v,u⟩|v
  ·show ksum f x.id+ksum xs x.id=x.size-sc
   rw[ksum_none P,ksum_all (λy a=>(C y a).2.1),E.2.1];omega
  ·rw[ksum_none (f:=xs) (λy a e=>u (by rw[<-e,(C y a).2.1])),U4]
   exact h.sum g v A
  ·rw[(F g v).1]at A;cases A
 ·let⟨r,D⟩:=h.rank
  open Classical in
  refine⟨λi=>if i∈s.used then r i else f.length,λy a=>?_⟩;rw[I];have G:=mem_id h hxf;rcases(hfold y).1 a with rfl|⟨a,_⟩|a
  ·let⟨q1,V⟩:=D x hxf
   refine⟨by show(if x.id∈s.used then r x.id else f.length)<_;rw[Q9 G];omega,λt=>?_⟩;show(if x.parent∈s.used then r x.parent else f.length)< (if x.id∈s.used then r x.id else f.length);rw[Q9 G,Q9 (par_used h hxf t)];exact V t
  ·let⟨q1,V⟩:=D y a
   have o:=mem_id h a;refine⟨by simp[Q9 o];omega,λt=>?_⟩;simp[Q9 o,Q9 (par_used h a t)];exact V t
  ·have o:=Q y a
   have aa:=List.length_pos_of_mem a;refine⟨by simp[Q5 o];omega,λt=>?_⟩;simp[Q5 o,(C y a).2.1,Q9 G];exact(D x hxf).1
 ·intro y a v H
  rcases(hfold y).1 a with rfl|⟨a,u⟩|a
  ·cases v
  ·let⟨z,U,e⟩:=h.st y a v H
   refine⟨z,T z ?_,e⟩;let⟨j,N⟩:=Ru U
   have O:j≠k:=λe2=>by
    subst e2;rw[Z]at N;cases N;exact u (by rw[<-e,nodeOf_id,hx])
   exact mem_out N O
  ·exact(F y a).2.1 H
 ·intro y a H
  rcases(hfold y).1 a with rfl|⟨a,u⟩|a
  ·exact absurd H B
  ·let⟨p,hp,e⟩:=h.pc y a H
   exact⟨p,S p hp,e⟩
  ·exact(F y a).2.2 H
 ·intro y a
  rcases K y a with a|⟨q,hq⟩
  ·let⟨p,hp⟩:=h.ts y ((kM _ _).subset a)
   refine⟨p,(hfold _).2 (.inr (.inl ⟨hp,?_⟩))⟩;rw[nodeOf_id,hx];exact out_ne R.ss Z a
  ·exact⟨q,(hfold _).2 (.inr (.inr hq))⟩
 ·intro p hp
  rcases J p hp with hp|hp
  ·have Y:=h.tp p hp
   refine(hfold _).2 (.inr (.inl ⟨Y,λe=>?_⟩));have:pieceN p p.parent=x:=bB9 hs Y hxf e;exact B (by rw[<-this];rfl)
  ·exact(hfold _).2 (.inr (.inr hp))
 ·intro b
  rw[rsum_fold b xs _ (λy a e=>by have:=(C y a).2.1;have:=c.1;omega),rsum_set hi,hr];exact h.rc b
def follow_set(a:e.kind≠1)(b:e.kind≠2)(g:e.kind≠8)(i:e.kind≠5)(c:e.cuts=[])(d:e.rests=[]):followN f s e=f:=by
 unfold followN growN;rw[Q5 a,Q5 b,Q5 Aa,c,d];rfl
def sum_nonneg:∀ {l:List Int},(∀x∈l,0<=x)->0<=l.sum
 | [],_=>Ad
 |x::l,h=>by
  have a:=sum_nonneg (l:=l) (λy hy=>h y GU);have b:=h x Ad;rw[RN];omega
def stock_pos(h:stOk x)(b:fT2 x):1<=gG x/\gG x<=100000000000000:=by
 refine⟨?_,(fV0 b).2⟩;unfold gG;cases a:x.isBar with
 |true=>
  simp[Us];exact(h.1 a).1.2.1
 |false=>
  simp[Bool.false_eq_true,Ul];exact area_pos (h.2 a).1.2.2.2.1.1
def tree_step(h:Tree s f)(S:Ok s n)(hv:Vs s)(hb:Bd s)(P:Bal s)(ag:Ids s)(hf:iD e)(hs:Step s e s')(T:Ok s' (n+more e))(af:Vs s')(aa:Bd s'):Tree s' (followN f s' e):=by
 cases hs with
 |recv x L hn=>
  let⟨v1,v2⟩:=bH6 L;have H:x∈(aX7 s x).stocks:=fH.2 (.inl rfl);have j:=stock_pos (af x H) (aa x H)
  have O:followN f (aX7 s x) e=addN f (nodeOf x 0):=by
   unfold followN;rcases L with⟨b,B,_⟩|⟨b,B,_⟩;rw[Q9 b,B];rw[Q5 Aa,Q9 b,B]
  rw[O];exact tree_recv h S hn v2.1 j
 |setK k m p K t i=>
  let⟨M,N⟩:=noLists hf Aa;rw[follow_set Aa Aa Aa Aa M N];exact tree_set h t p
 |setP k m st o K t ak i=>
  let⟨M,N⟩:=noLists hf Aa;rw[follow_set Aa Aa Aa Aa M N];exact tree_setP h t st o
 |disc k m K t i=>
  let⟨M,N⟩:=noLists hf Aa;let⟨x,b,B,A⟩:=stock_node h S (fC t);rw[i]at b
  have O:followN f (aX4 s k m) e=f.set (bs Node.id f e.id) (goneN x x.size):=by
   unfold followN growN goneAt;rw[Q5 Aa,Q5 Aa,Q9 (.inl K),b,M,N];simp[Q9 K];rfl
  rw[O];have E:=h.own x (fC b);exact tree_gone (s':=aX4 s k m) (xs:=[]) h S t b B A rfl trivial Ad ⟨by have:=E.2.2.2.1;omega,Ad,Tq _⟩ (λy a=>a) (λy a=> .inl a) (λp j=>j) (λp j=> .inl j) Ad rfl
 |cut k m K d ab t i j I hl=>
  let⟨x,b,B,A⟩:=stock_node h S (fC t);rw[i]at b;have w:=aF7 s e k m;have v:=aG4 s e k m
  have R:∀r∈e.rests,dZ m r∈(cut5 s e k m).stocks:=λr hr'=>by
   rw[w];refine aE5.2 (.inr ?_);rw[mV I];exact Rt hr'
  have Q:∀c∈e.cuts,fZ e m c∈(cut5 s e k m).pieces:=λc l=>by
   rw[v];exact aE5.2 (.inr (Rt l))
  have hrid:=λr hr'=>cL1 (tZ I r hr')
  have O:followN f (cut5 s e k m) e=(e.cuts.map (λc=>pieceN (fZ e m c) e.id)++e.rests.map λr=>nodeOf (dZ m r) e.id).foldl addN (f.set (bs Node.id f e.id) (goneN x e.scrap)):=by
   unfold followN growN goneAt;rw[Q5 Aa,Q5 Aa,Q9 (.inr K),b,restsN_eq (g:=dZ m) (λr hr'=>find_rest T (R r hr') (hrid r hr')),cutsN_eq (g:=fZ e m) (λc l=>find_piece T (Q c l) rfl),TK];simp[Q5 (show¬e.kind=8 from Aa)];rfl
  rw[O];have D:=P.br m (fC t);have E:=h.own x (fC b);have ai:1<=e.id:=by rw[<-i,<-B];exact E.1
  have U:x.id=e.id:=by rw[B,i]
  have ac:=λr (hr':r∈e.rests)=>dB6 (hv m (fC t)) (d.2.1 r hr').1 (tZ I r hr');unfold nJ at hl;have a1:R6 (subL (gG m) (e.cuts.map Made.size)):=bK7 _ _ D
  obtain⟨p1,p2,p3⟩:=bY2 _ _ a1 (λc l=>by
   obtain⟨x,L,rfl⟩:=Ri.1 l;obtain⟨r,b,rfl,A⟩:=yU I L;exact(yP A (cM1 D)).1) (by have:=d.2.2.2.2.1;omega)
  let⟨q1,q2,q3⟩:=bY2 _ _ D (λc l=>by
   obtain⟨x,L,rfl⟩:=Ri.1 l;have:=(d.1 x L).2.2;omega) p2
  have al:x.size=gG m:=by rw[A];exact(nodeOf_gone m _).2.2.2.2
  have u:=nodeOf_grade m x.parent;rw[<-A]at u;have V:=nodeOf_kind m x.parent;rw[<-A]at V
  have J:((e.cuts.map (λc=>pieceN (fZ e m c) e.id)++e.rests.map λr=>nodeOf (dZ m r) e.id).map Node.size).sum=(e.cuts.map Made.size).sum+((eG m e.rests).map gG).sum:=by
   rw[Rz,List.sum_append,TA,TA,mV I,TA];congr 2;exact SS λr _=>(nodeOf_gone _ _).2.2.2.2
  have G:(e.cuts.map (λc=>pieceN (fZ e m c) e.id)++e.rests.map λr=>nodeOf (dZ m r) e.id).map Node.id=fO e:=KY
  have ad:0<=((eG m e.rests).map gG).sum:=by
   refine sum_nonneg λz F=>?_;obtain⟨y,a,rfl⟩:=Ri.1 F;obtain⟨r,b,rfl,A⟩:=yU I a;exact(yP A (cM1 D)).1
  have ae:0<=(e.cuts.map Made.size).sum:=by
   refine sum_nonneg λz F=>?_;obtain⟨y,a,rfl⟩:=Ri.1 F;have:=(d.1 y a).2.2;omega
  refine tree_gone (s':=cut5 s e k m) h S t b B A (by rw[G];rfl) (by rw[G];exact ab) (λy a=>?_) ⟨d.2.2.2.2.1,by rw[J];omega,Aa⟩ (λy a=>by rw[w];exact aE5.2 (.inl a)) (λy a=>?_) (λp j=>by rw[v];exact aE5.2 (.inl j)) (λp j=>?_) (λz F=>?_) rfl;rcases QV.1 a with a|a;obtain⟨c,l,rfl⟩:=Ri.1 a;have C:=d.1 c l;have aj:=q3 c.size (Rt l);refine⟨⟨C.1.1,show(1:Int)<=3 from Ai,show(3:Int)<=3 from Ai,C.2.2,by show c.size<=_;have:=E.2.2.2.2.1;omega,Tq 0,by show 0<=c.size;have:=C.2.2;omega,λ_=>rfl,λ_=>⟨C.2.1,by show e.id≠0;omega,rfl⟩,λq=>absurd rfl q,by show 0<=e.id;omega⟩,U.symm,rfl,?_,?_, .inl rfl⟩;exact u.1;exact u.2;obtain⟨r,hr',rfl⟩:=Ri.1 a;let⟨b1,b2,b3,b4,b5,b6,b7⟩:=ac r hr';let⟨g1,W,X,g4,Y⟩:=nodeOf_gone (dZ m r) e.id;have gk:=nodeOf_kind (dZ m r) e.id;have Z:=nodeOf_grade (dZ m r) e.id;rw[b2]at gk Z;have gp:=stock_pos b1 (fZ0 (hb m (fC t)) (tZ I r hr'));have ah:(nodeOf (dZ m r) e.id).kind=1\/(nodeOf (dZ m r) e.id).kind=2:=Ic;refine⟨⟨by rw[nodeOf_id,hrid r hr'];exact(d.2.1 r hr').1.1,Aa,Aa,by rw[Y];exact gp.1,by rw[Y];exact gp.2,by rw[W];exact Tq 0,by rw[W,Y];omega,λ_=>W,λq=>Aa,λ_=>g4,by rw[X];omega⟩,by rw[X,U],rfl,?_,?_, .inr ?_⟩;rw[Z.1,b4,b6];exact u.1;rw[Z.2,b5,b7];exact u.2;rw[gk];exact V.symm;rw[w]at a;rcases aE5.1 a with a|a;exact .inl a;obtain⟨r,q1,rfl,q3⟩:=yU I a;exact .inr ⟨e.id,QV.2 (.inr (Rt q1))⟩;rw[v]at j;rcases aE5.1 j with j|j;exact .inl j;obtain⟨c,l,rfl⟩:=Ri.1 j;exact .inr (QV.2 (.inl (Rt l)));rcases QV.1 F with F|F;obtain⟨c,l,rfl⟩:=Ri.1 F;exact⟨rfl,λq=>absurd rfl q,λ_=>⟨fZ e m c,Q c l,rfl⟩⟩;obtain⟨r,hr',rfl⟩:=Ri.1 F;let⟨g1,W,X,g4,Y⟩:=nodeOf_gone (dZ m r) e.id;have gk:=nodeOf_kind (dZ m r) e.id;exact⟨g1,λ_=>⟨dZ m r,R r hr',by rw[X]⟩,λq=>by rw[gk]at q;split at q<;>omega⟩
def tree_all:∀ l  s  f  n,Tree s f->Good s n->Vs s->Bd s->Acc56 s l->Tree (finI s l) (finF s f l)/\Good (finI s l) (n+moreL l)/\Bd (finI s l)
 | [],s,f,n,h,a,_,g,_=>⟨h,a,g⟩
 |e::l,s,f,n,h,a,hv,g,i=>by
  let⟨k,j⟩:=aZ6 a.ok i.1;have c:=good_step a i.1;have d:=eP3 hv j;have b:=gI7 g j;have:=tree_all l _ _ _ (tree_step h a.ok hv g a.bal a.ids k j c.ok d b) c d b i.2;rw[show n+moreL (e::l)=n+more e+moreL l by unfold moreL;simp;omega];exact this
def climb_rank{f:List Node}{r:Int->Nat}(i:SortN f)(g:∀x∈f,x.parent≠0->∃p∈f,p.id=x.parent/\linkN x p)(b:∀x∈f,x.parent≠0->r x.parent<r x.id):∀(k:Nat) (x:Node),x∈f->r x.id<=k->climbR f k x=true
 |0,x,a,h=>by
  unfold climbR;refine decide_eq_true ?_;by_cases c:x.parent=0;exact c;have:=b x a c;omega
 |k+1,x,a,h=>by
  unfold climbR;by_cases c:x.parent=0;rw[Q9 c];obtain⟨p,d,e,_⟩:=g x a c;have j:=b x a c;rw[Q5 c,<-e,getN_some i d];exact climb_rank i g b k p d (by rw[e];omega)
def right_tree(h:Tree s f)(w:Ok s n):RightF f:=by
 have m:=tree_sorted h w;let⟨r,o⟩:=h.rank
 exact⟨λx l=>by
  let⟨a,b,c,d,_,e,g,i,j,k,_⟩:=h.own x l;exact⟨a,b,c,d,e,g,i,j,k⟩,m,λx l q=>by
  let⟨p,t,u,v⟩:=h.par x l q;exact⟨p,by rw[<-u];exact getN_some m t,v⟩,λx l=>climb_rank m h.par (λx l=>(o x l).2) _ x l (TY (o x l).1),h.sum⟩
structure Fin57(E:List Event)(s:aJ)(f:List Node):Prop where
 tr:Tree s f
 gd:Good s 336
 rt:RightF f
 ln:f.length<=336
 bl:Sp 6 [.sl (E.map aS)] (.tup [.own 33 (f.map nodeV),I E.length,I 0])
def fin_of(h:AccE l E):Fin57 E (finI inv0 E) (finF inv0 [] E):=by
 let⟨a,b,c⟩:=tree_all E inv0 [] 0 tree0 cN2 vs0 bd0 h.ac;have i:=h.mr;have d:Good (finI inv0 E) 336:=b.mono Aa;have e:E.take E.length=E:=TF;have g:=bld_take h E.length;have f:=(fo_take h E.length).2.2;rw[e]at g f;exact⟨a,d,right_tree a d.ok,f,g⟩
def sum_set2{b:Type}{g:b->Int}{y}:∀ {l:List b} {i} {x},l[i]? =some x->((l.set i y).map g).sum=(l.map g).sum-g x+g y
 | [],i,x,h=>Ah
 |a::l,0,x,h=>by
  cases h;rw[List.set_cons_zero,QZ,RN,QZ,RN];omega
 |a::l,i+1,x,h=>by
  have:=sum_set2 (g:=g) (y:=y) (l:=l) (i:=i) (x:=x) h;rw[List.set_cons_succ,QZ,RN,QZ,RN,this];omega
def map_same{a β:Type}{k:a->β}{l:List a}{x y}(h:l[i]? =some x)(e:k y=k x):(l.set i y).map k=l.map k:=by
 let⟨b,c⟩:=QO.1 h;rw[Ur,e,show k x=(l.map k)[i]'(by simpa using b) by rw[List.getElem_map,c],List.set_getElem_self]
def idp(x:Node):Int×Int:=(x.id,x.parent)
def getN_same{n:Int}:∀ {f g:List Node},f.map idp=g.map idp->(getN f n).map Node.parent=(getN g n).map Node.parent
 | [],[],_=>rfl
 | [],_::_,h=>Gl
 |_::_,[],h=>Gl
 |x::f,y::g,h=>by
  rw[QZ,QZ,List.cons.injEq]at h;obtain⟨a,e⟩:=h;have b:x.id=y.id:=Rx Prod.fst a;have d:x.parent=y.parent:=Rx Prod.snd a;unfold getN;rw[List.find?_cons,List.find?_cons,<-b];by_cases c:x.id=n;rw[decide_eq_true c];exact Rx some d;rw[decide_eq_false c];exact getN_same e
def climb_same(h:f.map idp=g.map idp):∀ k {x y},x.parent=y.parent->climbR f k x=climbR g k y
 |0,x,y,e=>by unfold climbR;rw[e]
 |k+1,x,y,e=>by
  unfold climbR;rw[e];split;rfl;have:=getN_same (n:=y.parent) h;cases d:getN f y.parent with
  |none=>
   cases c:getN g y.parent with
   |none=>rfl
   |some b=>rw[d,c]at this;cases this
  |some a=>
   cases c:getN g y.parent with
   |none=>rw[d,c]at this;cases this
   |some b=>
    rw[d,c]at this;exact climb_same h k (Ut this)
def self_par(h:RightF f)(a:x∈f):x.parent≠x.id:=λe=>by
 have:=(h.own x a).1;have b:=ch_child h a a e;have c:=Rx List.length b;rw[Rf]at c;omega
def sizN(x:Node)(n:Int):Node:={x with size:=n}
def scrN(x:Node)(n:Int):Node:={x with scrap:=n}
def ksum_siz(hi:f[i]? =some x) m:ksum (f.set i (sizN x n)) m=ksum f m+if x.parent=m then n-x.size else 0:=by
 unfold ksum;rw[sum_set2 hi];show _- (if x.parent=m then x.size else 0)+(if x.parent=m then n else 0)=_;split<;>omega
section
variable{f:List Node}(h:RightF f){i:Nat}{x:Node}(hi:f[i]? =some x)
include h hi
theorem scr_not{n:Int}(l:n≠x.scrap):¬RightF (f.set i (scrN x n)):=λk=>by
 have c:=fC hi;have d:scrN x n∈f.set i (scrN x n):=mem_set_at hi;cases a:x.gone with
 |true=>
  have e:=h.sum x c a;have b:=k.sum _ d a
  have g:ksum (f.set i (scrN x n)) x.id=ksum f x.id:=by
   unfold ksum;rw[sum_set2 hi];show _- (if x.parent=x.id then x.size else 0)+(if x.parent=x.id then x.size else 0)=_;omega
  have j:ksum (f.set i (scrN x n)) x.id=x.size-n:=b;omega
 |false=>
  have e:=(h.own x c).2.2.2.2.2.2.1 a;have b:n=0:=(k.own _ d).2.2.2.2.2.2.1 a;omega
theorem siz_iff{n:Int}(T:n≠x.size):RightF (f.set i (sizN x n))↔(x.parent=0/\x.gone=false)/\1<=n:=by
 have d:=fC hi;have E:sizN x n∈f.set i (sizN x n):=mem_set_at hi;have l:∀ {z:Node},z∈f.set i (sizN x n)↔z=sizN x n\/(z∈f/\z.id≠x.id):=set_mem h.so hi;constructor;intro k;have v:1<=n:=(k.own _ E).2.2.2.1;refine⟨?_,v⟩;cases j:x.gone with
 |true=>
  have O:=h.sum x d j;have w:ksum (f.set i (sizN x n)) x.id=n-x.scrap:=k.sum _ E j;rw[ksum_siz hi,Q5 (self_par h d)]at w;omega
 |false=>
  refine⟨?_,rfl⟩;by_cases c:x.parent=0;exact c;exfalso;obtain⟨p,F,s,u,t,U⟩:=par_get h d c;have B:p.id≠x.id:=by rw[u];exact self_par h d
  have O:=h.sum p s t.1;have w:=k.sum p (l.2 (.inr ⟨s,B⟩)) t.1;rw[ksum_siz hi,Q9 u.symm]at w;omega
 rintro⟨⟨N,j⟩,v⟩;have A:(f.set i (sizN x n)).map Node.id=f.map Node.id:=map_same hi rfl;have o:SortN (f.set i (sizN x n)):=by show((f.set i (sizN x n)).map Node.id).Pairwise (·<·);rw[A];exact h.so
 have Q:=h.own x d
 have P:∀z∈f,∀q∈f,q.id=z.parent->q.gone=true->q∈f.set i (sizN x n):=λz a q D e g=>l.2 (.inr ⟨D,λM=>by
  have:q=x:=bB9 h.so D d M;subst this;exact Bool.noConfusion (j.symm.trans g)⟩)
 refine⟨λz a=>?_,o,λz a r=>?_,λz a=>?_,λg b m=>?_⟩;rcases l.1 a with rfl|⟨a,_⟩;obtain⟨G,H,I,R,J,S,C,K,L⟩:=Q;have e:=C j;exact⟨G,H,I,v,J,by show x.scrap<=n;omega,C,K,L⟩;exact h.own z a;rcases l.1 a with rfl|⟨a,_⟩;exact absurd N r;obtain⟨p,F,s⟩:=h.par z a r;obtain⟨u,t⟩:=getN_mem F;refine⟨p,?_,s⟩;rw[<-t];exact getN_some o (P z a p u t s.1);have e:(f.set i (sizN x n)).map idp=f.map idp:=map_same hi rfl;rw[Tf];rcases l.1 a with rfl|⟨a,_⟩;rw[climb_same e f.length (x:=sizN x n) (y:=x) rfl];exact h.up x d;rw[climb_same e f.length (y:=z) rfl];exact h.up z a;rcases l.1 b with rfl|⟨b,_⟩;exact Bool.noConfusion (j.symm.trans m);have:=(h.own g b).1;rw[ksum_siz hi,Q5 Aa,U4];exact h.sum g b m
end
def nd_cells(l:List Node):∀y∈l.map nodeV,y.cells.length=9:=λy hy=>AY
def lawChecked_spec(l:List Event)(a m:Int)(G:0<=a/\a<=255)(hm: -128<=m/\m<=127)(c:Sp 4 [] (.lit (.bool true)))(J:l.length<=9223372036854775807)(u:∀e∈l,bI1 e):Sp 3 [.sl (l.map aS), .lit (.int .u8 a), .lit (.int .i8 m)] (.lit (.bool true)):=by
 refine zsp Tryz.func3 ?_;have g:=aS2 l 16 J u;by_cases o:fewL l 16/\m≠0;rotate_left
 ·repeat' ((conv=>whnf);first|(exfalso;exact o ⟨Ag,Ag⟩)|(exfalso;contradiction)|refine zc c ?_|refine zc g ?_|refine zS ?_|refine zd (λhd=>?_) (λhd=>?_)|refine zl (λhlt=>?_) (λhlt=>?_)|refine zk (λhle=>?_) (λhle=>?_)|refine ze (λheq=>?_) (λheq=>?_)|refine zm (λx hx=>?_)|refine zb (λhbb=>?_) (λhbb=>?_))
  all_goals exact zE
 obtain⟨o,R⟩:=o;obtain⟨F,B⟩:=acc_of u o;have i:=fin_of F;generalize okEv inv0 l=E at*;generalize finF inv0 [] E=f at*;generalize finI inv0 E=s at*;have D:=i.bl;have N:=i.ln;have O:(f.map nodeV).length=f.length:=Ad;repeat' ((conv=>whnf);first|(exfalso;contradiction)|refine zc c ?_|refine zc g ?_|refine zU ?_|refine zd (λhd=>?_) (λhd=>?_)|refine zl (λhlt=>?_) (λhlt=>?_)|refine zk (λhle=>?_) (λhle=>?_)|refine ze (λheq=>?_) (λheq=>?_)|refine zm (λx hx=>?_)|refine zb (λhbb=>?_) (λhbb=>?_))
 refine eY7 ?_;repeat' ((conv=>whnf);first|(exfalso;contradiction)|refine zc c ?_|refine zc g ?_|refine zU ?_|refine zd (λhd=>?_) (λhd=>?_)|refine zl (λhlt=>?_) (λhlt=>?_)|refine zk (λhle=>?_) (λhle=>?_)|refine ze (λheq=>?_) (λheq=>?_)|refine zm (λx hx=>?_)|refine zb (λhbb=>?_) (λhbb=>?_))
 refine eY7 ?_;repeat' ((conv=>whnf);first|(exfalso;contradiction)|refine zc c ?_|refine zc g ?_|refine zU ?_|refine zd (λhd=>?_) (λhd=>?_)|refine zl (λhlt=>?_) (λhlt=>?_)|refine zk (λhle=>?_) (λhle=>?_)|refine ze (λheq=>?_) (λheq=>?_)|refine zm (λx hx=>?_)|refine zb (λhbb=>?_) (λhbb=>?_))
 refine eY7 ?_;repeat' ((conv=>whnf);first|(exfalso;contradiction)|refine zc c ?_|refine zc g ?_|refine zU ?_|refine zd (λhd=>?_) (λhd=>?_)|refine zl (λhlt=>?_) (λhlt=>?_)|refine zk (λhle=>?_) (λhle=>?_)|refine ze (λheq=>?_) (λheq=>?_)|refine zm (λx hx=>?_)|refine zb (λhbb=>?_) (λhbb=>?_))
 refine eY7 ?_;repeat' ((conv=>whnf);first|(exfalso;contradiction)|refine zc c ?_|refine zc g ?_|refine zU ?_|refine zd (λhd=>?_) (λhd=>?_)|refine zl (λhlt=>?_) (λhlt=>?_)|refine zk (λhle=>?_) (λhle=>?_)|refine ze (λheq=>?_) (λheq=>?_)|refine zm (λx hx=>?_)|refine zb (λhbb=>?_) (λhbb=>?_))
 refine eY7 ?_;repeat' ((conv=>whnf);first|(exfalso;contradiction)|refine zc c ?_|refine zc g ?_|refine zU ?_|refine zd (λhd=>?_) (λhd=>?_)|refine zl (λhlt=>?_) (λhlt=>?_)|refine zk (λhle=>?_) (λhle=>?_)|refine ze (λheq=>?_) (λheq=>?_)|refine zm (λx hx=>?_)|refine zb (λhbb=>?_) (λhbb=>?_))
 all_goals conv=>whnf
 refine dJ4 Unit (λ_=>mkSt [(1, .lit (.int .u8 a)),(2, .lit (.int .i8 m)),(7, .sl (f.map nodeV)),(9,I 0)] [] []) (λ_=>True) ?_ ?_
 ·repeat' ((conv=>whnf);first|refine zc B ?_|refine zc D ?_|refine zS ?_|refine zd (λhd=>?_) (λhd=>?_)|refine zl (λhlt=>?_) (λhlt=>?_)|refine zk (λhle=>?_) (λhle=>?_)|refine ze (λheq=>?_) (λheq=>?_)|refine zm (λx hx=>?_)|refine zb (λhbb=>?_) (λhbb=>?_))
  all_goals conv=>whnf
  refine⟨(),Le.trans (fB (k:=26) rfl (.inl rfl)) ?_,trivial⟩;exact zj
 intro _ _;all_goals conv=>whnf
 clear g B D c J u o F;cases f with
 |nil=>
  have t:(([] :List Node).map nodeV).length=0:=rfl;repeat' ((conv=>whnf);first|omega|refine zS ?_|refine zd (λhd=>?_) (λhd=>?_)|refine zl (λhlt=>?_) (λhlt=>?_)|refine zk (λhle=>?_) (λhle=>?_)|refine ze (λheq=>?_) (λheq=>?_)|refine zm (λx hx=>?_)|refine zb (λhbb=>?_) (λhbb=>?_))
  all_goals conv=>whnf
  exact aK (aA1.2 rfl)
 |cons M K=>
 have t:(((M::K).map nodeV).length:Int)≠0:=AZ;generalize M::K=f at*;repeat' ((conv=>whnf);first|omega|refine iH rfl (.inl rfl) rfl (QN rfl) (nd_cells f) Bz ?_|refine dS rfl rfl AQ ?_|refine dB8 rfl rfl ?_|refine gK (l:=f) hx Aa ?_|refine zU ?_|refine zd (λhd=>?_) (λhd=>?_)|refine zl (λhlt=>?_) (λhlt=>?_)|refine zk (λhle=>?_) (λhle=>?_)|refine ze (λheq=>?_) (λheq=>?_)|refine zm (λx hx=>?_)|refine zb (λhbb=>?_) (λhbb=>?_))
 all_goals conv=>whnf
 refine eY7 ?_;repeat' ((conv=>whnf);first|omega|refine iH rfl (.inl rfl) rfl (QN rfl) (nd_cells f) Bz ?_|refine dS rfl rfl AQ ?_|refine dB8 rfl rfl ?_|refine gK (l:=f) hx Aa ?_|refine zU ?_|refine zd (λhd=>?_) (λhd=>?_)|refine zl (λhlt=>?_) (λhlt=>?_)|refine zk (λhle=>?_) (λhle=>?_)|refine ze (λheq=>?_) (λheq=>?_)|refine zm (λx hx=>?_)|refine zb (λhbb=>?_) (λhbb=>?_))
 all_goals conv=>whnf
 refine eY7 ?_;repeat' ((conv=>whnf);first|omega|refine iH rfl (.inl rfl) rfl (QN rfl) (nd_cells f) Bz ?_|refine dS rfl rfl AQ ?_|refine dB8 rfl rfl ?_|refine gK (l:=f) hx Aa ?_|refine zU ?_|refine zd (λhd=>?_) (λhd=>?_)|refine zl (λhlt=>?_) (λhlt=>?_)|refine zk (λhle=>?_) (λhle=>?_)|refine ze (λheq=>?_) (λheq=>?_)|refine zm (λx hx=>?_)|refine zb (λhbb=>?_) (λhbb=>?_))
 all_goals conv=>whnf
 obtain⟨k,H,q⟩:∃k:Nat,a.tmod ((f.map nodeV).length:Int)=k/\k<f.length:=by
  rw[Int.tmod_eq_emod_of_nonneg G.1];have Z:=Int.emod_nonneg a t;have h2:=Int.emod_lt_of_pos a (show 0< ((f.map nodeV).length:Int) from Aa);exact⟨(a% ((f.map nodeV).length:Int)).toNat,Aa,Aa⟩
 refine dJ4 Unit (λ_=>mkSt [(2, .lit (.int .i8 m)),(7, .sl (f.map nodeV)),(10,I k)] [] []) (λ_=>True) ?_ ?_
 ·repeat' ((conv=>whnf);first|omega|refine zS ?_|refine zd (λhd=>?_) (λhd=>?_)|refine zl (λhlt=>?_) (λhlt=>?_)|refine zk (λhle=>?_) (λhle=>?_)|refine ze (λheq=>?_) (λheq=>?_)|refine zm (λx hx=>?_)|refine zb (λhbb=>?_) (λhbb=>?_))
  all_goals conv=>whnf
  refine⟨(),?_,trivial⟩;rw[<-H];exact zj
 intro _ _;all_goals conv=>whnf
 clear H t G;obtain⟨x,hx⟩:∃x,f[k]? =some x:=⟨_,QR q⟩;have v:=QT hx;have d:=i.tr.own x v;have W:=d.2.2.2.2.1;have T:=d.2.2.2.1;have U:0<=x.scrap:=d.2.2.2.2.2.1;have V:x.scrap<=x.size:=d.2.2.2.2.2.2.1;refine eY7 ?_;repeat' ((conv=>whnf);first|omega|refine iH rfl (.inl rfl) rfl (QN rfl) (nd_cells f) Bz ?_|refine dS rfl rfl AQ ?_|refine dB8 rfl rfl ?_|refine gK (l:=f) hx Aa ?_|refine zU ?_|refine zd (λhd=>?_) (λhd=>?_)|refine zl (λhlt=>?_) (λhlt=>?_)|refine zk (λhle=>?_) (λhle=>?_)|refine ze (λheq=>?_) (λheq=>?_)|refine zm (λx hx=>?_)|refine zb (λhbb=>?_) (λhbb=>?_))
 all_goals conv=>whnf
 refine eY7 ?_;repeat' ((conv=>whnf);first|omega|refine iH rfl (.inl rfl) rfl (QN rfl) (nd_cells f) Bz ?_|refine dS rfl rfl AQ ?_|refine dB8 rfl rfl ?_|refine gK (l:=f) hx Aa ?_|refine zU ?_|refine zd (λhd=>?_) (λhd=>?_)|refine zl (λhlt=>?_) (λhlt=>?_)|refine zk (λhle=>?_) (λhle=>?_)|refine ze (λheq=>?_) (λheq=>?_)|refine zm (λx hx=>?_)|refine zb (λhbb=>?_) (λhbb=>?_))
 all_goals conv=>whnf
 refine dJ4 Unit (λ_=>mkSt [(7, .sl (f.map nodeV)),(10,I k),(11, .sl ((f.set k (sizN x (x.size+m))).map nodeV)),(12, .sl ((f.set k (scrN x (x.scrap+m))).map nodeV))] [] []) (λ_=>True) ?_ ?_
 ·repeat' ((conv=>whnf);first|omega|refine dS rfl rfl AQ ?_|refine dB8 rfl rfl ?_|refine gK (l:=f) hx Aa ?_|refine zS ?_|refine zd (λhd=>?_) (λhd=>?_)|refine zl (λhlt=>?_) (λhlt=>?_)|refine zk (λhle=>?_) (λhle=>?_)|refine ze (λheq=>?_) (λheq=>?_)|refine zm (λx hx=>?_)|refine zb (λhbb=>?_) (λhbb=>?_))
  all_goals conv=>whnf
  refine⟨(),Le.trans (fB (k:=44) rfl (.inl rfl)) (Le.trans (fB (k:=47) rfl (.inl rfl)) ?_),trivial⟩;rw[Ur,Ur];exact zj
 intro _ _;all_goals conv=>whnf
 have Q:(f.set k (sizN x (x.size+m))).length=f.length:=Tf ..;have P:(f.set k (scrN x (x.scrap+m))).length=f.length:=Tf ..
 have q1:=rightG_spec (f.set k (sizN x (x.size+m))) Aa (λz j=>by
  rcases Uj j with j|rfl;have:=(i.tr.own z j).2.2.2.2.1;omega
  show x.size+m<=_;omega)
 have q2:=rightG_spec (f.set k (scrN x (x.scrap+m))) Aa (λz j=>by
  rcases Uj j with j|rfl;have:=(i.tr.own z j).2.2.2.2.1;omega
  show x.size<=_;omega)
 have r1:=siz_iff i.rt hx (n:=x.size+m) Aa;have L:=scr_not i.rt hx (n:=x.scrap+m) Aa;rw[dbF L]at q2;obtain⟨y,hsx,r⟩:∃y,(f.set k (sizN x (x.size+m)))[k]? =some y/\y.size=x.size+m:=⟨_,by rw[List.getElem?_set_self q],rfl⟩;clear L d;generalize f.set k (scrN x (x.scrap+m))=C at*;generalize f.set k (sizN x (x.size+m))=S1 at*;have S:(S1.map nodeV).length=S1.length:=Ad;have hR:∀b,decB (RightF S1)=b->Sp 8 [.sl (S1.map nodeV)] (.lit (.bool b)):=λb h=>by rw[<-h];exact q1
 obtain⟨xi,xk,Y,xg,xh,xq,xs,X,xc⟩:=x;by_cases w:Y=0;replace r:y.size=xs+m:=r;cases X with
 |false=>
  by_cases A:1<=xs+m;replace q1:=hR true (dH.2 (r1.2 ⟨⟨w,rfl⟩,A⟩));exact Na;replace q1:=hR false (dW.2 (λh=>A (r1.1 h).2));exact Na
 |true=>
  replace q1:=hR false (dW.2 (λh=>Bool.noConfusion (r1.1 h).1.2));exact Na
 replace q1:=hR false (dW.2 (λh=>w (r1.1 h).1.1));exact Na
end Go.Proofs.Led
