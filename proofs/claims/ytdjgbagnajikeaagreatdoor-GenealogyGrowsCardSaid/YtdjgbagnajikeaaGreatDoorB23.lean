/-
  Forests that events lead to have the IDs that were used: they fit (no program in sight).
-/
import Derived.Test.YtdjgbagnajikeaaGreatDoorB10
set_option linter.unusedVariables false
set_option linter.unusedSimpArgs false
set_option maxRecDepth 100000
set_option maxHeartbeats 8000000
noncomputable section
namespace Go.Proofs.Led
open Go Go.Proofs Go.Ab
theorem map_bs{a:Type}(key:a->Int)(l:List a)(t:Int):bs id (l.map key) t=bs key l t:=by
 unfold bs;rw[List.takeWhile_map,QS];rfl
theorem map_put{a:Type}(key:a->Int)(l:List a)(x:a):(putAt l (bs key l (key x)) x).map key=putN (l.map key) (key x):=by
 unfold putN;rw[map_bs];unfold putAt;simp_all
theorem addN_ids(f:List Node)(x:Node):(addN f x).map Node.id=putN (f.map Node.id) x.id:=map_put Node.id f x
theorem fold_ids:∀(xs f:List Node),(xs.foldl addN f).map Node.id=cO (f.map Node.id) (xs.map Node.id)
 | [],f=>rfl
 |x::xs,f=>by
  rw[RF,fold_ids xs,addN_ids];rfl
theorem gone_ids(f:List Node)(i:Nat)(e:Event):(goneAt f i e).map Node.id=f.map Node.id:=by
 unfold goneAt;split
 ·rename_i x h
  obtain⟨b,a⟩:=QD.1 h;rw[UE];have:(goneN x (if e.kind=8 then x.size else e.scrap)).id=(f.map Node.id)[i]'(by simpa using b):=by rw[List.getElem_map,a];rfl
  rw[this,List.set_getElem_self]
 ·rfl
theorem noLists{e:Event}(h:iD e)(a:e.kind≠5):e.cuts=[]/\e.rests=[] :=by
 have:=h.2.2.1 a;simp_all
theorem find_rest{s:aJ}{n:Nat}(h:Ok s n){x:aN}(a:x∈s.stocks){i:Int}(hi:sid x=i):bF5 s i=x:=by
 subst hi;unfold bF5;rw[eF7 h a];rfl
theorem find_piece{s:aJ}{n:Nat}(h:Ok s n){x:Piece}(a:x∈s.pieces){i:Int}(hi:x.id=i):bF0 s i=x:=by
 subst hi;unfold bF0;rw[dK2 h a];rfl
theorem cutsN_eq{s:aJ}{g:Made->Piece}:∀ {l:List Made} {f:List Node},(∀c∈l,bF0 s c.id=g c)->cutsN f s l=(l.map λc=>pieceN (g c) (g c).parent).foldl addN f
 | [],f,_=>rfl
 |c::l,f,h=>by
  unfold cutsN;rw[RF,h c Ae,QW,RF];exact cutsN_eq (λx hx=>h x BH)
theorem restsN_eq{s:aJ}{n:Int}{g:Rest->aN}:∀ {l:List Rest} {f:List Node},(∀r∈l,bF5 s r.id=g r)->restsN f s n l=(l.map λr=>nodeOf (g r) n).foldl addN f
 | [],f,_=>rfl
 |c::l,f,h=>by
  unfold restsN;rw[RF,h c Ae,QW,RF];exact restsN_eq (λx hx=>h x BH)
theorem put_in{a:Type}{key:a->Int}{y:a}:∀ {xs l:List a},(y∈l\/y∈xs)->y∈xs.foldl (putK key) l
 | [],l,h=>h.elim id (λh=>Ah)
 |x::xs,l,h=>by
  rw[RF];refine put_in ?_;rcases h with h|h
  ·exact .inl (fH.2 (.inr h))
  ·rcases QO.1 h with rfl|h
   ·exact .inl (fH.2 (.inl rfl))
   ·exact .inr h
def newN(s:aJ)(x:Node):Prop:=x.id∉s.used/\x.gone=false/\x.scrap=0
inductive Grown(f:List Node)(s s':aJ)(e:Event):List Node->Prop
 |same (h:∀m'∈s'.stocks,∃m∈s.stocks,sid m=sid m'):Grown f s s' e f
 |more (xs:List Node) (h:∀x∈xs,newN s x) (hm:∀m'∈s'.stocks,(∃m∈s.stocks,sid m=sid m')\/∃x∈xs,x.id=sid m'):Grown f s s' e (xs.foldl addN f)
 |gone (xs:List Node) (h:∀x∈xs,newN s x) (h0:∃m∈s.stocks,sid m=e.id)
  (hm:∀m'∈s'.stocks,(sid m'≠e.id/\∃m∈s.stocks,sid m=sid m')\/∃x∈xs,x.id=sid m'):Grown f s s' e (xs.foldl addN (goneAt f (bs Node.id f e.id) e))
theorem node_new{s:aJ}{x:aN}{p:Int}(h:sid x∉s.used):newN s (nodeOf x p):=by
 obtain⟨a,b,_⟩:=nodeOf_gone x p;exact⟨by rw[nodeOf_id];exact h,a,b⟩
theorem put_mem{a:Type}{key:a->Int}{y:a}:∀ {xs l:List a},y∈xs.foldl (putK key) l->y∈l\/y∈xs
 | [],l,h=> .inl h
 |x::xs,l,h=>by
  rw[RF]at h;rcases put_mem h with h|h
  ·rcases fH.1 h with rfl|h
   ·exact .inr (SK ..)
   ·exact .inl h
  ·exact .inr (SB _ h)
theorem out_ne{c:Type}{key:c->Int}{l:List c}{k:Nat}{m y:c}(e:(l.map key).Pairwise (·<·))(d:l[k]? =some m)(a:y∈nN l k):key y≠key m:=by
 unfold nN at a;rcases QJ.1 a with a|a
 ·obtain⟨j,b⟩:=List.mem_iff_getElem?.1 a
  rw[TI]at b;grind [sorted_at]
 ·obtain⟨j,b⟩:=List.mem_iff_getElem?.1 a
  rw[RI]at b;have:=sorted_at e d b Aa;omega
theorem out_other{s:aJ}{n k:Nat}{m y:aN}(b:Ok s n)(a:s.stocks[k]? =some m)(c:y∈nN s.stocks k):sid y≠sid m:=out_ne b.ss a c
theorem follow_fit{s B:aJ}{e:Event}{f:List Node}{n n':Nat}(j:f.map Node.id=s.used)(R:Ok s n)(D:Ok B n')(hn:n<=1000000)(X:iD e)(hs:Step s e B):
 (followN f B e).map Node.id=B.used/\FitN f B e/\Grown f s B e (followN f B e):=by
 have t:(f.map Node.id).Pairwise (·<·):=by
  have:=R.su;rw[List.map_id]at this;rw[j];exact this
 have u:f.length<=1000000:=by
  have:=R.lu;grind
 have G:∀ {i:Int} {x:Node},x∈f->i∉s.used->x.id≠i:=λI hi e=>hi (by rw[<-e,<-j];exact Rq I)
 have P:∀m∈s.stocks,∃x∈f,x.id=sid m:=λm z=>by
  have:=R.us m z;grind
 have C:e.kind≠5->e.kind≠1->e.kind≠2->newI B e=[] :=λh5 v A=>by
  obtain⟨U,T⟩:=noLists X h5;simp_all [Q5,newI]
 have F:e.kind≠1->e.kind≠2->e.kind≠8->e.kind≠5->followN f B e=f/\FitN f B e:=λv A h3 V=>by
  obtain⟨U,T⟩:=noLists X V;refine⟨?_,⟨t,u,λh=>Aa,λi hi=>?_,?_⟩⟩
  ·unfold followN growN
   rw[Q5 v,Q5 A,Q5 Aa,U,T];rfl
  ·rw[C V v A]at hi;cases hi
  ·rw[C V v A];exact List.Pairwise.nil
 cases hs with
 |recv x I N=>
  have K:followN f (aX7 s x) e=addN f (nodeOf x 0):=by
   unfold followN;grind
  have S:newI (aX7 s x) e=[sid x] :=by
   unfold newI;rcases I with⟨v,A,_⟩|⟨v,A,_⟩
   ·rw[Q9 v,A];rfl
   ·rw[Q5 Aa,Q9 v,A];rfl
  refine⟨by rw[K,addN_ids,j,nodeOf_id];rfl,⟨t,u,λh=>?_,λi hi y L=>?_,?_⟩,?_⟩
  ·rcases I with⟨v,_⟩|⟨v,_⟩<;>omega
  ·rw[S]at hi
   rw[QI.1 hi];exact G L N
  ·rw[S];exact TL _ _
  ·rw[K]
   refine .more [nodeOf x 0] (λy L=>by rw[QI.1 L];exact node_new N) (λE l=>?_)
   rcases fH.1 l with rfl|h
   ·exact .inr ⟨_,QI.2 rfl,nodeOf_id _ _⟩
   ·exact .inl ⟨E,h,rfl⟩
 |setK k m p M z q=>
  obtain⟨a,b⟩:=F Aa Aa Aa Aa;rw[a];refine⟨j,b, .same λE l=>?_⟩;rcases mem_set l with rfl|h
  ·exact⟨m,fC z,rfl⟩
  ·exact⟨E,h,rfl⟩
 |setP k m st o M z ab q=>
  obtain⟨a,b⟩:=F Aa Aa Aa Aa;rw[a];exact⟨j,b, .same λE l=>⟨E,l,rfl⟩⟩
 |disc k m M z q=>
  obtain⟨U,T⟩:=noLists X Aa
  have K:followN f (aX4 s k m) e=goneAt f (bs Node.id f e.id) e:=by
   unfold followN growN;rw[Q5 Aa,Q5 Aa,Q9 (.inl M),U,T];rfl
  rw[K,gone_ids];refine⟨j,⟨t,u,λ_=>?_,λi hi=>?_,?_⟩, .gone [] Ae ⟨m,fC z,q⟩ λE l=> .inl ⟨by rw[<-q];exact out_other R z l,E,(kM _ _).subset l,rfl⟩⟩
  ·obtain⟨x,v,A⟩:=P m (fC z)
   exact⟨x,v,A.trans q⟩
  ·rw[C Aa Aa Aa]at hi;cases hi
  ·rw[C Aa Aa Aa];exact List.Pairwise.nil
 |cut k m M aa W z q hp Z hl=>
  have Q:∀r∈e.rests,dZ m r∈(cut5 s e k m).stocks:=λr d=>by
   rw[aF7];grind [put_in,mV,Rq]
  have O:∀c∈e.cuts,fZ e m c∈(cut5 s e k m).pieces:=λc J=>by
   rw[aG4];exact put_in (.inr (Rq J))
  have w:∀r∈e.rests,sid (dZ m r)=r.id:=λr d=>cL1 (tZ Z r d)
  have H:(e.cuts.map (λc=>pieceN (fZ e m c) e.id)++e.rests.map λr=>nodeOf (dZ m r) e.id).map Node.id=fO e:=by
   unfold fO;rw[Rl,Uc,Uc];congr 1;exact SE λr d=>by show(nodeOf _ _).id=_;rw[nodeOf_id];exact w r d
  have K:followN f (cut5 s e k m) e=(e.cuts.map (λc=>pieceN (fZ e m c) e.id)++e.rests.map λr=>nodeOf (dZ m r) e.id).foldl addN (goneAt f (bs Node.id f e.id) e):=by
   unfold followN growN;rw[Q5 Aa,Q5 Aa,Q9 (.inr M),restsN_eq (g:=dZ m) (λr d=>find_rest D (Q r d) (w r d)),cutsN_eq (g:=fZ e m) (λc J=>find_piece D (O c J) rfl),Tz];rfl
  have S:newI (cut5 s e k m) e=fO e:=by
   unfold newI fO;rw[Q5 Aa,Q5 Aa];congr 1
   ·exact SE λc J=>by rw[find_piece (i:=c.id) D (O c J) rfl];rfl
   ·exact SE λr d=>by rw[find_rest D (Q r d) (w r d)];exact w r d
  obtain⟨Y,f2⟩:=qJ.1 W
  have g:Grown f s (cut5 s e k m) e ((e.cuts.map (λc=>pieceN (fZ e m c) e.id)++e.rests.map λr=>nodeOf (dZ m r) e.id).foldl addN (goneAt f (bs Node.id f e.id) e)):=
   .gone _ (λx I=>by
    refine⟨Y _ (by rw[<-H];exact Rq I),?_⟩
    rcases QJ.1 I with h|h
    ·obtain⟨c,J,rfl⟩:=QZ.1 h
     exact⟨rfl,rfl⟩
    ·obtain⟨r,d,rfl⟩:=QZ.1 h
     exact⟨(nodeOf_gone _ _).1,(nodeOf_gone _ _).2.1⟩) ⟨m,fC z,q⟩ λE l=>by
    rw[aF7]at l;rcases put_mem l with h|h
    ·exact .inl ⟨by rw[<-q];exact out_other R z h,E,(kM _ _).subset h,rfl⟩
    ·rw[mV Z]at h
     obtain⟨r,d,rfl⟩:=QZ.1 h;exact .inr ⟨_,QJ.2 (.inr (Rq d)),nodeOf_id _ _⟩
  rw[K];refine⟨by rw[fold_ids,gone_ids,j,H];rfl,⟨t,u,λ_=>?_,λi hi y L=>?_,?_⟩,g⟩
  ·obtain⟨x,v,A⟩:=P m (fC z)
   exact⟨x,v,A.trans q⟩
  ·rw[S]at hi
   exact G L (Y i hi)
  ·rw[S];exact f2
theorem fit_all:∀(l:List Event) (s:aJ) (f:List Node) (n:Nat),Ok s n->f.map Node.id=s.used->n+moreL l<=1000000->fitAll s f l
 | [],_,_,_,_,_,_=>trivial
 |e::l,s,f,n,d,hi,m=>λi=>by
  have k:moreL (e::l)=more e+moreL l:=E5;obtain⟨j,g⟩:=aZ6 d i;have c:=eR5 d g
  obtain⟨a,b,_⟩:=follow_fit hi d c Aa j g;exact⟨b,fit_all l _ _ _ c a Aa⟩
theorem mem_set_at{a:Type}{l:List a}{k:Nat}{m x:a}(b:l[k]? =some m):x∈l.set k x:=by
 obtain⟨h,_⟩:=QD.1 b;exact List.mem_iff_getElem?.2 ⟨k,by rw[List.getElem?_set_self h]⟩
theorem mem_at{b:Type}{l:List b}{i:Nat}{x y z:b}(c:l[i]? =some x):z∈l.set i y↔z=y\/∃j,j≠i/\l[j]? =some z:=by
 obtain⟨hi,_⟩:=QD.1 c;constructor
 ·intro h
  obtain⟨j,a⟩:=QY h;grind
 ·rintro(rfl|⟨j,a,h⟩)
  ·exact mem_set_at c
  ·exact List.mem_iff_getElem?.2 ⟨j,by rw[List.getElem?_set,Q5 (λe=>a e.symm)];exact h⟩
theorem set_mem{f:List Node}(h:(f.map Node.id).Pairwise (·<·)){i:Nat}{x y z:Node}(c:f[i]? =some x):z∈f.set i y↔z=y\/(z∈f/\z.id≠x.id):=by
 rw[mem_at c];refine or_congr Rt ⟨?_,?_⟩
 ·grind [fC,Nat.lt_or_gt_of_ne,sorted_at]
 ·rintro⟨b,a⟩
  obtain⟨j,d⟩:=QY b;grind
structure Fo(s:aJ)(f:List Node):Prop where
 ids:f.map Node.id=s.used
 sc:∀x∈f,x.gone=false->x.scrap=0
 ng:∀m∈s.stocks,∀x∈f,x.id=sid m->x.gone=false
theorem fo0:Fo inv0 [] :=⟨rfl,Ae,Ae⟩
theorem Fo.so{s:aJ}{f:List Node}{n:Nat}(h:Fo s f)(a:Ok s n):SortN f:=by
 have:=a.su;rw[List.map_id]at this;show(f.map Node.id).Pairwise _;rw[h.ids];exact this
def normN(l x:Node):Node:=if l.gone then x else {x with gone:=false,scrap:=0}
theorem norm_self{l:Node}(h:l.gone=false->l.scrap=0):normN l l=l:=by
 unfold normN
 cases k:l.gone with
 |true=>rfl
 |false=>
  have m:=h k;obtain⟨a,b,c,d,e,f,g,i,j⟩:=l;simp_all
theorem norm_gone{l:Node}{c:Int}(k:l.gone=false)(h:l.scrap=0):normN l (goneN l c)=l:=by
 unfold normN goneN;rw[k];obtain⟨a,b,c,d,e,f,g,i,j⟩:=l;simp_all
def Kept(f f':List Node):Prop:=∀l∈f,∃x∈f',x.id=l.id/\normN l x=l
theorem grown_step{s H:aJ}{e:Event}{f G:List Node}{n:Nat}(h:Fo s f)(N:Ok s n)(P:Grown f s H e G)(d:G.map Node.id=H.used):Fo H G/\Kept f G:=by
 have k:∀ {x:Node},x∈f->x.id∈s.used:=λj=>by rw[<-h.ids];exact Rq j
 have A:=h.so N
 cases P with
 |same C=>
  refine⟨⟨d,h.sc,λB i x j e=>?_⟩,λl p=>⟨l,p,rfl,norm_self (h.sc l p)⟩⟩;obtain⟨m,g,o⟩:=C B i;exact h.ng m g x j (e.trans o.symm)
 |more xs j C=>
  have a:∀y,y∈xs.foldl addN f↔y∈f\/y∈xs:=λy=>⟨put_mem (key:=Node.id),put_in (key:=Node.id)⟩;refine⟨⟨d,λx b r=>?_,λB i x b e=>?_⟩,λl p=>⟨l,(a l).2 (.inl p),rfl,norm_self (h.sc l p)⟩⟩
  ·rcases(a x).1 b with q|q
   ·exact h.sc x q r
   ·exact(j x q).2.2
  ·rcases(a x).1 b with q|q
   ·rcases C B i with⟨m,g,o⟩|⟨y,g,o⟩
    ·exact h.ng m g x q (e.trans o.symm)
    ·exact absurd (k q) (by rw[e,<-o];exact(j y g).1)
   ·exact(j x q).2.1
 |gone xs j Q C=>
  obtain⟨K,E,t⟩:=Q
  obtain⟨z,R,J⟩:∃z∈f,z.id=e.id:=by
   have:=N.us K E;rw[<-h.ids,t]at this;simp_all
  obtain⟨y,u,F⟩:=aB8 A ⟨z,R,J⟩;have v:=fC u;have D:y.gone=false:=h.ng K E y v (by rw[F,t])
  obtain⟨c,O⟩:∃c,goneAt f (bs Node.id f e.id) e=f.set (bs Node.id f e.id) (goneN y c):=⟨_,by unfold goneAt;rw[u]⟩
  rw[O]at d⊢
  have a:∀x,x∈xs.foldl addN (f.set (bs Node.id f e.id) (goneN y c))↔(x=goneN y c\/(x∈f/\x.id≠y.id))\/x∈xs:=λx=>by
   rw[<-set_mem A u];exact⟨put_mem (key:=Node.id),put_in (key:=Node.id)⟩
  refine⟨⟨d,λx b r=>?_,λB i x b I=>?_⟩,λl p=>?_⟩
  ·rcases(a x).1 b with(rfl|⟨q,_⟩)|q
   ·cases r
   ·exact h.sc x q r
   ·exact(j x q).2.2
  ·rcases(a x).1 b with(rfl|⟨q,S⟩)|q
   ·have M:y.id=sid B:=I
    rcases C B i with⟨g,_⟩|⟨w,g,o⟩
    ·exact absurd (by rw[<-M];exact F) g
    ·exact absurd (k v) (by rw[M,<-o];exact(j w g).1)
   ·rcases C B i with⟨_,m,g,o⟩|⟨w,g,o⟩
    ·exact h.ng m g x q (I.trans o.symm)
    ·exact absurd (k q) (by rw[I,<-o];exact(j w g).1)
   ·exact(j x q).2.1
  ·by_cases L:l.id=y.id
   ·have:l=y:=bB9 A p v L
    subst this;exact⟨goneN l c,(a _).2 (.inl (.inl rfl)),rfl,norm_gone D (h.sc l p D)⟩
   ·exact⟨l,(a _).2 (.inl (.inr ⟨p,L⟩)),rfl,norm_self (h.sc l p)⟩
def embR:List Node->List Node->Prop
 | [],_=>True
 |_::_,[] =>False
 |l::ls,x::fs=>if x.id=l.id then normN l x=l/\embR ls fs else embR (l::ls) fs
theorem emb_of:∀ {b d:List Node},SortN d->SortN b->Kept d b->embR d b
 | [],[],_,_,_=>by unfold embR;trivial
 | [],l::d,_,_,h=>by
   obtain⟨x,r,_⟩:=h l (SK ..);cases r
 |x::b,[],_,_,_=>by unfold embR;trivial
 |x::b,l::d,f,p,h=>by
  obtain⟨k,m⟩:=RH.1 f;obtain⟨n,j⟩:=RH.1 p;have q:∀y∈d,l.id<y.id:=λy a=>k _ (Rq a);have t:∀y∈b,x.id<y.id:=λy a=>n _ (Rq a)
  unfold embR;obtain⟨w,s,v,z⟩:=h l (SK ..);by_cases c:x.id=l.id
  ·rw[Q9 c]
   refine⟨?_,emb_of m j λy a=>?_⟩
   ·grind
   ·obtain⟨u,e,g,i⟩:=h y (SB _ a)
    rcases QO.1 e with rfl|e
    ·have:=q y a;omega
    ·exact⟨u,e,g,i⟩
  ·rw[Q5 c]
   have o:w∈b:=by
    grind
   refine emb_of f j λy a=>?_;obtain⟨u,e,g,i⟩:=h y a;grind
theorem emb_len:∀ {b a:List Node},embR a b->a.length<=b.length
 |_,[],_=>Ro _
 | [],l::a,h=>by unfold embR at h;exact h.elim
 |x::b,l::a,h=>by
  unfold embR at h;split at h
  ·simp_all [emb_len,QM]
  ·have:=emb_len h
   simp only[QM]at this⊢;omega
def okEv(s:aJ):List Event->List Event
 | [] => []
 |e::l=>if(appR s e).2=0 then e::okEv (appR s e).1 l else okEv s l
def finI(s:aJ):List Event->aJ
 | [] =>s
 |e::l=>finI (appR s e).1 l
def finF(s:aJ)(f:List Node):List Event->List Node
 | [] =>f
 |e::l=>finF (appR s e).1 (followN f (appR s e).1 e) l
def Acc56(s:aJ):List Event->Prop
 | [] =>True
 |e::l=>(appR s e).2=0/\Acc56 (appR s e).1 l
theorem acc_ok:∀(l:List Event) (s:aJ),Acc56 s (okEv s l)
 | [],_=>trivial
 |e::l,s=>by
  unfold okEv;split
  ·rename_i h
   exact⟨h,acc_ok l _⟩
  ·exact acc_ok l s
theorem okEv_sub:∀(l:List Event) (s:aJ),(okEv s l).Sublist l
 | [],_=>List.Sublist.refl _
 |e::l,s=>by
  unfold okEv;split
  ·exact(okEv_sub l _).cons_cons e
  ·exact(okEv_sub l s).cons e
theorem acc_take:∀(l:List Event) (s:aJ) (n:Nat),Acc56 s l->Acc56 s (l.take n)
 | [],_,n,_=>by rw[List.take_nil];trivial
 |e::l,s,0,_=>trivial
 |e::l,s,n+1,h=>⟨h.1,acc_take l _ n h.2⟩
theorem build_acc:∀(l:List Event) (s:aJ) (f:List Node) (i:Int),Acc56 s l->buildF s f i l=(finF s f l,i+l.length,0)
 | [],s,f,i,_=>by
   show(f,i,(0:Int))=(f,i+((0:Nat):Int),0);rw[Int.natCast_zero,Int.add_zero]
 |e::l,s,f,i,h=>by
  rw[buildF,Q9 h.1,build_acc l _ _ _ h.2];have:i+1+(l.length:Int)=i+((e::l).length:Nat):=by simp only[QM];omega
  rw[this];rfl
theorem finF_snoc:∀(l:List Event) (s:aJ) (f:List Node) (e:Event),finF s f (l++[e])=followN (finF s f l) (appR (finI s l) e).1 e
 | [],s,f,e=>rfl
 |x::l,s,f,e=>finF_snoc l _ _ e
theorem acc_snoc:∀(l:List Event) (s:aJ) (e:Event),Acc56 s (l++[e])->(appR (finI s l) e).2=0/\finI s (l++[e])=(appR (finI s l) e).1
 | [],s,e,h=>⟨h.1,rfl⟩
 |x::l,s,e,h=>acc_snoc l _ e h.2
theorem acc_fo:∀(l:List Event) (s:aJ) (f:List Node) (n:Nat),Ok s n->Fo s f->n+moreL l<=1000000->Acc56 s l->Fo (finI s l) (finF s f l)/\Ok (finI s l) (n+moreL l)
 | [],s,f,n,b,h,_,_=>⟨h,b⟩
 |e::l,s,f,n,b,h,m,i=>by
  have j:moreL (e::l)=more e+moreL l:=E5;obtain⟨k,d⟩:=aZ6 b i.1;have c:=eR5 b d
  obtain⟨a,_,g⟩:=follow_fit h.ids b c Aa k d;have:=acc_fo l _ _ _ c (grown_step h b g a).1 Aa i.2;rw[j,<-Td];exact this
theorem grow_one{l:List Event}{e:Event}(r:moreL (l++[e])<=1000000)(m:Acc56 inv0 (l++[e])):embR (finF inv0 [] l) (finF inv0 [] (l++[e]))/\(finF inv0 [] l).length<=(finF inv0 [] (l++[e])).length:=by
 have q:moreL (l++[e])=moreL l+more e:=E5
 have i:Acc56 inv0 l:=by
  have:=acc_take (l++[e]) inv0 l.length m;rw[List.take_left]at this;exact this
 obtain⟨c,f⟩:=acc_fo l inv0 [] 0 ok0 fo0 Aa i;obtain⟨n,s⟩:=acc_snoc l inv0 e m;obtain⟨o,j⟩:=aZ6 f n;have d:=eR5 f j;obtain⟨a,_,g⟩:=follow_fit c.ids f d Aa o j;obtain⟨b,k⟩:=grown_step c f g a;rw[finF_snoc];refine⟨emb_of (c.so f) (b.so d) k,?_⟩;exact emb_len (emb_of (c.so f) (b.so d) k)
def aplSt(l:List Event)(s:aJ)(K:List Event)(n:Nat):St:=match K with
 | [] =>mkSt [(0, .sl (l.map aS)),(2,nilV),(3,nilV),(4, .box 4 0),(5,I n)] [(4,invC s)] []
 |d::K=>mkSt [(0, .sl (l.map aS)),(2,nilV),(3, .arr 33 K.length),(4, .box 4 0),(5,I n)] [(4,invC s)] [(33,⟨K.length, .own,93,(d::K).map aS⟩)]
structure ApL(l:List Event)(Pr:aJ->Nat->Prop):Prop where
 p0:Pr inv0 0
 ps:∀(s:aJ) (e:Event) (n:Nat),Pr s n->(appR s e).2=0->Pr (appR s e).1 (n+more e)
 ow:∀e∈l,Sp 41 [aS e] (aS e)
 ap:∀e∈l,∀(s:aJ) (n:Nat),Pr s n->n<=900000->Sp 42 [invV s,aS e] (.tup [invV (appR s e).1,I (appR s e).2])
theorem applied_spec(l:List Event)(S:l.length<=1000000)(w:aJ->Nat->Prop)(M:ApL l w)(W:moreL l<=900000):Sp 17 [.sl (l.map aS)] (.own 93 ((okEv inv0 l).map aS)):=by
 refine zsp Tryz.func17 ?_;obtain⟨H,O,J,N⟩:=M;have U:(l.map aS).length=l.length:=Ae;generalize L:okEv inv0 l=q
 repeat' ((conv=>whnf);first|omega|refine zS ?_|refine zd (λj=>?_) (λj=>?_)|refine zl (λb=>?_) (λb=>?_)|refine zk (λf=>?_) (λf=>?_)|refine ze (λg=>?_) (λg=>?_)|refine zm (λx m=>?_)|refine zb (λi=>?_) (λi=>?_))
 refine loop_4 (A:=aJ) (B:=List Event) (C:=List Event) (D:=List Event) (λs K D R=>aplSt l s K D.length) (λs K D R=>l=D++R/\K++okEv s R=q/\K.length<=D.length/\∃n,w s n/\n+moreL R<=900000) (λs K D R=>R.length) inv0 [] [] l ?_ ⟨rfl,L,QH _,0,H,Aa⟩ (λs K D R hp=>?_)
 ·show Le T _ (mkSt [(0, .sl (l.map aS)),(2,nilV),(3,nilV),(4, .box 4 0),(5,I 0)] [(4,invC inv0)] [])
  exact zj
 obtain⟨hp,hK,v,n,E,F⟩:=hp
 cases R with
 |cons e R=>
  have o:=aO hp;have Q:moreL (e::R)=more e+moreL R:=E5
  have P:=J e Ad;have G:=N e Ad s n E Aa
  have k:(D++[e]).length=D.length+1:=Ae;have y:okEv s (e::R)=if(appR s e).2=0 then e::okEv (appR s e).1 R else okEv s R:=rfl
  rw[y]at hK;by_cases c:(appR s e).2=0
  ·rw[Q9 c]at hK
   have u:=O s e n E c;have r:∃t,w (appR s e).1 t/\t+moreL R<=900000:=⟨_,u,Aa⟩
   clear u;rw[c]at G;generalize appR s e=a at*
   cases K with
   |nil=>
    repeat' ((conv=>whnf);first|omega|(exfalso;contradiction)|refine cC0 [(4,4),(6,6)] Af Ak ?_|refine gX (QC rfl) (dA rfl) (QC rfl) ?_|refine zS ?_|refine zd (λj=>?_) (λj=>?_)|refine zl (λb=>?_) (λb=>?_)|refine zk (λf=>?_) (λf=>?_)|refine ze (λg=>?_) (λg=>?_)|refine zm (λx m=>?_)|refine zb (λi=>?_) (λi=>?_))
    all_goals conv=>whnf
    refine⟨(a.1,[e],D++[e],R),?_,⟨Ad,hK,Ae,r⟩,Ae⟩;show Le T _ (aplSt l a.1 [e] (D++[e]).length);rw[k];exact zj
   |cons d K=>
    have j:(d::K).length=K.length+1:=rfl
    repeat' ((conv=>whnf);first|omega|(exfalso;contradiction)|refine cC0 [(4,4),(6,6)] Af Ak ?_|refine mX (l:=d::K) rfl rfl (.inl rfl) rfl (QC rfl) rfl Aa ?_|refine zS ?_|refine zd (λj=>?_) (λj=>?_)|refine zl (λb=>?_) (λb=>?_)|refine zk (λf=>?_) (λf=>?_)|refine ze (λg=>?_) (λg=>?_)|refine zm (λx m=>?_)|refine zb (λi=>?_) (λi=>?_))
    all_goals conv=>whnf
    refine⟨(a.1,d::(K++[e]),D++[e],R),?_,⟨Ad,by rw[<-hK];simp,by simp at v⊢;omega,r⟩,Ae⟩
    show Le T _ (aplSt l a.1 (d::(K++[e])) (D++[e]).length);rw[k];unfold aplSt;exact Nj
  ·rw[Q5 c]at hK
   have r:∃t,w s t/\t+moreL R<=900000:=⟨n,E,Aa⟩;generalize appR s e=a at*
   cases K with
   |nil=>
    repeat' ((conv=>whnf);first|omega|(exfalso;contradiction)|refine cC0 [(4,4),(6,6)] Af Ak ?_|refine zS ?_|refine zd (λj=>?_) (λj=>?_)|refine zl (λb=>?_) (λb=>?_)|refine zk (λf=>?_) (λf=>?_)|refine ze (λg=>?_) (λg=>?_)|refine zm (λx m=>?_)|refine zb (λi=>?_) (λi=>?_))
    all_goals conv=>whnf
    refine⟨(s,[],D++[e],R),?_,⟨Ad,hK,Ae,r⟩,Ae⟩;show Le T _ (aplSt l s [] (D++[e]).length);rw[k];exact zj
   |cons d K=>
    have j:(d::K).length=K.length+1:=rfl
    repeat' ((conv=>whnf);first|omega|(exfalso;contradiction)|refine cC0 [(4,4),(6,6)] Af Ak ?_|refine zS ?_|refine zd (λj=>?_) (λj=>?_)|refine zl (λb=>?_) (λb=>?_)|refine zk (λf=>?_) (λf=>?_)|refine ze (λg=>?_) (λg=>?_)|refine zm (λx m=>?_)|refine zb (λi=>?_) (λi=>?_))
    all_goals conv=>whnf
    refine⟨(s,d::K,D++[e],R),?_,⟨Ad,hK,by simp at v⊢;omega,r⟩,Ae⟩
    show Le T _ (aplSt l s (d::K) (D++[e]).length);rw[k];exact zj
 |nil=>
  have o:l.length=D.length:=Ad;have z:K=q:=by rw[<-hK];show K=K++[];simp
  subst z
  cases K with
  |nil=>
   repeat' ((conv=>whnf);first|omega|refine zS ?_|refine zd (λj=>?_) (λj=>?_)|refine zl (λb=>?_) (λb=>?_)|refine zk (λf=>?_) (λf=>?_)|refine ze (λg=>?_) (λg=>?_)|refine zm (λx m=>?_)|refine zb (λi=>?_) (λi=>?_))
   all_goals conv=>whnf
   exact P6
  |cons d K=>
   have j:(d::K).length=K.length+1:=rfl
   repeat' ((conv=>whnf);first|omega|refine zS ?_|refine zd (λj=>?_) (λj=>?_)|refine zl (λb=>?_) (λb=>?_)|refine zk (λf=>?_) (λf=>?_)|refine ze (λg=>?_) (λg=>?_)|refine zm (λx m=>?_)|refine zb (λi=>?_) (λi=>?_))
   all_goals exact zE
theorem fW0{a:Type}{f:a->V}{n:Nat}(hf:∀x,(f x).cells.length=n)(l:List a):∀y∈l.map f,y.cells.length=n:=λy hy=>Fv
def stR(s:aJ):List V:=[.own 171 (s.stocks.map aQ), .own 173 (s.pieces.map aZ), .own 3 (s.used.map I),I s.received.1,I s.received.2,I s.scrap.1,I s.scrap.2]
theorem fV4(s:aJ)(g:s.stocks.length<=1000000)(e:s.pieces.length<=1000000)(c:s.used.length<=1000000):Sp 87 [invV s] (.tup (.bot::stR s)):=by
 refine zsp Tryz.func87 ?_;have a:(s.stocks.map aQ).length=s.stocks.length:=Ae;have d:(s.pieces.map aZ).length=s.pieces.length:=Ae
 have b:(s.used.map I).length=s.used.length:=Ae
 repeat' ((conv=>whnf);first|refine iH rfl (.inl rfl) rfl (QC rfl) (fW0 (f:=aQ) (n:=14) (λ_=>rfl) s.stocks) (by show 0+(s.stocks.map aQ).length<=1000000000;omega) ?_|refine iH rfl (.inl rfl) rfl (QC rfl) (fW0 (f:=aZ) (n:=9) (λ_=>rfl) s.pieces) (by show 0+(s.pieces.map aZ).length<=1000000000;omega) ?_|refine iH rfl (.inl rfl) rfl (QC rfl) (fW0 (f:=I) (n:=1) (λ_=>rfl) s.used) (by show 0+(s.used.map I).length<=1000000000;omega) ?_|refine gI0 ?_|refine zS ?_|fail)
 all_goals conv=>whnf
 all_goals exact⟨_,_,rfl,rfl,by repeat' (first|exact trivial|refine And.intro ?_ ?_|exact rfl),rfl⟩
end Go.Proofs.Led
