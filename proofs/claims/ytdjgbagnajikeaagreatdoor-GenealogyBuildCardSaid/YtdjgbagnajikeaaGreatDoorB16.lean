/-
  The reference's insert, root, find for the genealogy's Build.
-/
import Derived.Test.YtdjgbagnajikeaaGreatDoorB14
import Derived.Test.YtdjgbagnajikeaaGreatDoorB15
set_option linter.unusedVariables false
set_option linter.unusedSimpArgs false
set_option maxRecDepth 100000
set_option maxHeartbeats 8000000
noncomputable section
namespace Go.Proofs.Led
open Go Go.Proofs Go.Ab
theorem rins_spec(f:List Node)(x:Node)(m:f.length<=1000000):Sp 96 [.sl (f.map nodeV),nodeV x] (.own 120 ((addN f x).map nodeV)):=by
 refine zsp Tryz.func96 ?_;have l:(f.map nodeV).length=f.length:=Af;generalize g:(addN f x).map nodeV=U at*
 repeat' ((conv=>whnf);first|refine zU ?_|refine zm (λx a=>?_)|refine zT ?_ ?_<;>intro _|fail)
 refine eY7 ?_
 repeat' ((conv=>whnf);first|refine zU ?_|refine zm (λx a=>?_)|refine zT ?_ ?_<;>intro _|fail)
 refine eY7 ?_
 repeat' ((conv=>whnf);first|refine zU ?_|refine zm (λx a=>?_)|refine zT ?_ ?_<;>intro _|fail)
 all_goals conv=>whnf
 refine dJ4 Unit (λ_=>mkSt [(0, .sl (f.map nodeV)),(3, .box 3 0),(5,I (bs Node.id f x.id))] [(3,nodeC x)] []) (λ_=>True) ?_ ?_
 ·repeat' ((conv=>whnf);first|refine zS ?_|refine zm (λx a=>?_)|refine zT ?_ ?_<;>intro _|fail)
  refine aU (A:=List Node) (B:=List Node) (λD R=>mkSt [(0, .sl (f.map nodeV)),(3, .box 3 0),(5,I D.length)] [(3,nodeC x)] []) (λD R=>f=D++R/\∀y∈D,y.id<x.id) (λD R=>R.length) [] f ?_ ⟨rfl,Af⟩ (λD R hp=>?_)
  ·exact zj
  obtain⟨hp,d⟩:=hp
  cases R with
  |nil=>
   have b:f.length=D.length:=Ae;have e:=fT4 (key:=Node.id) hp d (λx R' h=>Ah)
   repeat' ((conv=>whnf);first|omega|refine zS ?_|refine zm (λx a=>?_)|refine zT ?_ ?_<;>intro _|fail)
   all_goals conv=>whnf
   refine⟨(),?_,trivial⟩;rw[e];exact zj
  |cons y R=>
   have b:=aO hp;by_cases hyk:x.id<=y.id
   ·have e:=fT4 (key:=Node.id) (t:=x.id) hp d (λx R' h'=>Ik)
    repeat' ((conv=>whnf);first|omega|refine cC0 [(3,3)] Ad Aj ?_|refine zS ?_|refine zm (λx a=>?_)|refine zT ?_ ?_<;>intro _|fail)
    all_goals conv=>whnf
    refine⟨(),?_,trivial⟩;rw[e];exact zj
   ·have i:∀z∈D++[y],z.id<x.id:=λz c=>by
     rcases QX.1 c with c|c
     ·exact d z c
     ·rw[QW.1 c];omega
    repeat' ((conv=>whnf);first|omega|refine cC0 [(3,3)] Ad Aj ?_|refine zS ?_|refine zm (λx a=>?_)|refine zT ?_ ?_<;>intro _|fail)
    all_goals conv=>whnf
    refine⟨(D++[y],R),?_,⟨Ae,i⟩,Af⟩;exact Nj
 intro _ _;have e:=(fH2 nodeV f x (k:=bs Node.id f x.id) rfl).symm.trans g;subst e;have j:=bQ8 Node.id f x.id
 clear g;generalize bs Node.id f x.id=k at*
 repeat' ((conv=>whnf);first|omega|refine cC0 [(3,3)] Ad Aj ?_|refine iH rfl (.inl rfl) rfl (Q9 rfl) (fL0 (f:=nodeV) (n:=9) (λ_=>rfl) f _) (by show 0+(List.take _ (f.map nodeV)).length<=1000000000;rw[QZ];omega) ?_|refine iH rfl (.inl rfl) rfl (Q9 rfl) (dA rfl) (by show(List.take _ (f.map nodeV)).length+1<=1000000000;rw[QZ];omega) ?_|refine iH rfl (.inl rfl) rfl (Q9 rfl) (f_dt (f:=nodeV) (n:=9) (λ_=>rfl) f _ _) (by show(List.take _ (f.map nodeV)++[_]).length+(List.drop _ (List.take _ (f.map nodeV))).length<=1000000000;rw[QU,QZ,QY,RU,QZ];omega) ?_|refine fU ⟨Aa,Aa,Aa, .inr (fF6 (f:=nodeV) (n:=9) (λ_=>rfl) f)⟩ ?_|refine zS ?_|refine zm (λx a=>?_)|refine zT ?_ ?_<;>intro _|fail)
 all_goals exact zE
theorem rroot_spec(x:aN)(hx:eY x):Sp 97 [aQ x] (nodeV (nodeOf x 0)):=by
 refine zsp Tryz.func97 ?_;have d:=fJ6 x hx;have a:x.isBar=true->gG x=x.bar.length:=λh=>by unfold gG;rw[QO h]
 unfold nodeOf;generalize gG x=z at*;obtain⟨b,s,c,q⟩:=x;cases b;all_goals simp only[Bool.false_eq_true,Ul,TY]
 ·repeat' ((conv=>whnf);first|(exfalso;contradiction)|refine cC0 [(1,1),(2,2),(18,1),(19,1),(21,1),(22,1),(24,1),(25,1)] Ad Aj ?_|refine zS ?_|refine zm (λx hx=>?_)|refine zT ?_ ?_<;>intro _|fail)
  all_goals exact zE
 ·rw[a rfl]
  exact OO
theorem firstN_bs{f:List Node}(d:SortN f){n:Int}(h:∃m∈f,m.id=n):firstN f n=bs Node.id f n:=by
 obtain⟨x,g,rfl⟩:=h;obtain⟨D,R,rfl⟩:=List.append_of_mem g;have a:((D++x::R).map Node.id).Pairwise (·<·):=d;rw[RF,RQ]at a;have c:∀y∈D,y.id<x.id:=λy b=>a.2.2 y.id (RJ b) x.id Af
 rw[firstN_some (λy b e=>by have:=c y b;omega) rfl,fT4 (key:=Node.id) (t:=x.id) rfl c (λy R' e=>by cases e;exact U2 _)]
def aftA(s:aJ)(e:Event)(F:List Node)(D:List Made):St:=mkSt [(0, .sl (F.map nodeV)),(6, .box 6 0),(7, .box 7 0),(11,I D.length)] [(6,invC s),(7,iJ e)] []
def aftB(s:aJ)(e:Event)(F:List Node)(D:List Rest):St:=mkSt [(0, .sl (F.map nodeV)),(6, .box 6 0),(7, .box 7 0),(14,I D.length)] [(6,invC s),(7,iJ e)] []
theorem aft1_vc(f:List Node)(c s:aJ)(e:Event)(h:FolOk f s e)(a:e.kind=1):fnVC T Tryz.prog Tryz.f43 [.sl (f.map nodeV),invV c,invV s,aS e] (.own 120 ((followN f s e).map nodeV)):=by
 have d:=rroot_spec ⟨false,e.sheet,bar0,aI⟩ ⟨h.sh a,RI _⟩;have g:=rins_spec f (nodeOf ⟨false,e.sheet,bar0,aI⟩ 0) h.ln
 have i:=h.ln;have b:(f.map nodeV).length=f.length:=Af
 unfold followN;rw[QO a];exact NQ
theorem aft2_vc(f:List Node)(c s:aJ)(e:Event)(h:FolOk f s e)(a:e.kind=2):fnVC T Tryz.prog Tryz.f43 [.sl (f.map nodeV),invV c,invV s,aS e] (.own 120 ((followN f s e).map nodeV)):=by
 have d:=rroot_spec ⟨true,dN,e.bar,aI⟩ ⟨xZ,h.ev.br⟩;have g:=rins_spec f (nodeOf ⟨true,dN,e.bar,aI⟩ 0) h.ln
 have i:=h.ln;have b:(f.map nodeV).length=f.length:=Af
 unfold followN;rw[Q5 Aa,QO a];exact NQ
theorem aft8_vc(f:List Node)(j s:aJ)(e:Event)(x:Node)(h:FolOk f s e)(i:SortN f)(hk:e.kind=8)(hx:f[bs Node.id f e.id]? =some x)(a:∃m∈f,m.id=e.id):fnVC T Tryz.prog Tryz.f43 [.sl (f.map nodeV),invV j,invV s,aS e] (.own 120 ((followN f s e).map nodeV)):=by
 obtain⟨c1,c2⟩:=h.no Aa;have c:=rfind_spec f e.id h.ln;rw[firstN_bs i a]at c;have d:=(QR.1 hx).1
 have hll:(f.map nodeV).length=f.length:=Af;have g:=h.ln
 have b:followN f s e=f.set (bs Node.id f e.id) (goneN x x.size):=Lm;rw[b,<-map_set2 f _ (goneN x x.size) {x with gone:=true}];clear b h c1 c2 a;generalize bs Node.id f e.id=k at*
 repeat' ((conv=>whnf);first|omega|refine iH rfl (.inl rfl) rfl (Q9 rfl) (fF6 (f:=nodeV) (n:=9) (λ_=>rfl) f) Bq ?_|(refine aS5 (c) true ?_ rfl ?_;focus ((repeat' (first|exact trivial|refine And.intro ?_ ?_|with_reducible rfl|exact(λh=>Ah)|exact rfl));done))|refine dS rfl rfl BU ?_|refine dS rfl rfl Cf ?_|refine dB8 rfl rfl ?_|refine cV1 (l:=f.map nodeV) rfl Io ?_|refine zS ?_|refine zm (λx hx=>?_)|refine zT ?_ ?_<;>intro _|fail)
 all_goals exact zE
theorem aft0_vc(f:List Node)(d s:aJ)(e:Event)(h:FolOk f s e)(hk:e.kind≠1/\e.kind≠2/\e.kind≠5/\e.kind≠8):fnVC T Tryz.prog Tryz.f43 [.sl (f.map nodeV),invV d,invV s,aS e] (.own 120 ((followN f s e).map nodeV)):=by
 obtain⟨c1,c2⟩:=h.no hk.2.2.1;have c:=h.ln;have b:(f.map nodeV).length=f.length:=Af
 have a:followN f s e=f:=MQ;rw[a];clear a h c1 c2;exact NQ
theorem aft5_vc(f F0:List Node)(U s:aJ)(e:Event)(x:Node)(h:FolOk f s e)(P:SortN f)(hk:e.kind=5)(hx:f[bs Node.id f e.id]? =some x)(d:∃m∈f,m.id=e.id)(hF:F0=f.set (bs Node.id f e.id) (goneN x e.scrap))
 (y:∀D R,e.cuts=D++R->(cutsN F0 s D).length<=1000000)(G:∀D R,e.rests=D++R->(restsN (cutsN F0 s e.cuts) s e.id D).length<=1000000)(i:∀c∈e.cuts,(bF0 s c.id).parent=e.id):
 fnVC T Tryz.prog Tryz.f43 [.sl (f.map nodeV),invV U,invV s,aS e] (.sl ((followN f s e).map nodeV)):=by
 have v:=rfind_spec f e.id h.ln;rw[firstN_bs P d]at v;have J:=(QR.1 hx).1
 have hll:(f.map nodeV).length=f.length:=Af;have K:=h.ln
 have H:=h.ev.ct;have O:=h.ev.rs
 have L:(e.cuts.map dK).length=e.cuts.length:=Af;have M:(e.rests.map bY).length=e.rests.length:=Af
 have u:followN f s e=restsN (cutsN F0 s e.cuts) s e.id e.rests:=KU;have E:F0.map nodeV=((f.map nodeV).set ((bs Node.id f e.id:Nat):Int).toNat (nodeV {x with gone:=true})).set ((bs Node.id f e.id:Nat):Int).toNat (nodeV (goneN x e.scrap)):=by rw[hF,map_set2]
 rw[u];have N:=h.lp;have r:=h.ls
 have S:=h.sz;clear u h hF d;generalize bs Node.id f e.id=k at*
 repeat' ((conv=>whnf);first|omega|refine cC0 [(0,77777),(7,7),(64,77777),(66,77777),(68,7),(70,77777),(71,77777),(72,77777),(73,77777)] Ad Aj ?_|refine iH rfl (.inl rfl) rfl (Q9 rfl) (fF6 (f:=nodeV) (n:=9) (λ_=>rfl) f) Bq ?_|(refine aS5 (v) true ?_ rfl ?_;focus ((repeat' (first|exact trivial|refine And.intro ?_ ?_|with_reducible rfl|exact(λh=>Ah)|exact rfl));done))|refine dS rfl rfl BU ?_|refine dS rfl rfl Cf ?_|refine dB8 rfl rfl ?_|refine cV1 (l:=f.map nodeV) rfl Io ?_|refine zS ?_|refine zm (λx hx=>?_)|refine zT ?_ ?_<;>intro _|fail)
 all_goals conv=>whnf
 refine aU (A:=List Made) (B:=List Made) (λD R=>aftA s e (cutsN F0 s D) D) (λD R=>e.cuts=D++R) (λD R=>R.length) [] e.cuts ?_ rfl (λD R hp2=>?_)
 ·refine Le.trans (fB (k:=18) rfl (.inl rfl)) ?_
  show Le T _ (mkSt [(0, .sl (F0.map nodeV)),(6, .box 6 0),(7, .box 7 0),(11,I 0)] [(6,invC s),(7,iJ e)] []);rw[E];exact zj
 cases R with
 |cons c R=>
  have g:=aO hp2;have j:((D++[c]).length:Int)=(D.length:Int)+1:=Af
  have t:=y D (c::R) hp2;have F:=rFindP_spec s c.id N
  have q:=i c CZ;have w:=rins_spec (cutsN F0 s D) (pieceN (bF0 s c.id) (bF0 s c.id).parent) t
  have a:=cutsN_snoc F0 s D c;rw[q]at w a;generalize bF0 s c.id=z at*;generalize (∃m∈s.pieces,m.id=c.id)=Q at*;generalize addN (cutsN F0 s D) (pieceN z e.id)=C at*;generalize cutsN F0 s D=b at*
  repeat' ((conv=>whnf);first|omega|refine cC0 [(6,6),(7,7),(83,7)] Ad Aj ?_|refine zS ?_|refine zm (λx hx=>?_)|refine zT ?_ ?_<;>intro _|fail)
  all_goals conv=>whnf
  refine⟨(D++[c],R),?_,CZ,Af⟩;show Le T _ (aftA s e (cutsN F0 s (D++[c])) (D++[c]));rw[a];refine Le.trans (fB (k:=106) rfl (.inl rfl)) ?_;unfold aftA;exact Nj
 |nil=>
  have g:e.cuts.length=D.length:=CZ;have eD:e.cuts=D:=CZ
  clear y;rw[<-eD]at*;clear hp2 eD;generalize cutsN F0 s e.cuts=b at*
  repeat' ((conv=>whnf);first|omega|refine zS ?_|refine zm (λx hx=>?_)|refine zT ?_ ?_<;>intro _|fail)
  all_goals conv=>whnf
  refine aU (A:=List Rest) (B:=List Rest) (λD R=>aftB s e (restsN b s e.id D) D) (λD R=>e.rests=D++R) (λD R=>R.length) [] e.rests ?_ rfl (λD R hp2=>?_)
  ·show Le T _ (mkSt [(0, .sl (b.map nodeV)),(6, .box 6 0),(7, .box 7 0),(14,I 0)] [(6,invC s),(7,iJ e)] [])
   exact zj
  cases R with
  |cons c R=>
   have hlen2:=aO hp2;have j:((D++[c]).length:Int)=(D.length:Int)+1:=Af
   have t:=G D (c::R) hp2;have F:=rFindS_spec s c.id r
   have w:=rroot_spec (bF5 s c.id) (S c.id);have W:=rins_spec (restsN b s e.id D) (nodeOf (bF5 s c.id) e.id) t
   have a:=restsN_snoc b s e.id D c;have o:nodeOf (bF5 s c.id) e.id={nodeOf (bF5 s c.id) 0 with parent:=e.id}:=by unfold nodeOf;split<;>rfl
   generalize addN (restsN b s e.id D) (nodeOf (bF5 s c.id) e.id)=V at*;generalize nodeOf (bF5 s c.id) e.id=X at*;subst o;generalize nodeOf (bF5 s c.id) 0=n0 at*;generalize bF5 s c.id=z at*;generalize (∃m∈s.stocks,sid m=c.id)=Q at*;generalize restsN b s e.id D=C at*
   repeat' ((conv=>whnf);first|omega|refine cC0 [(6,6),(7,7),(116,7)] Ad Aj ?_|refine zS ?_|refine zm (λx hx=>?_)|refine zT ?_ ?_<;>intro _|fail)
   all_goals conv=>whnf
   refine⟨(D++[c],R),?_,CZ,Af⟩;show Le T _ (aftB s e (restsN b s e.id (D++[c])) (D++[c]));rw[a];refine Le.trans (fB (k:=132) rfl (.inl rfl)) ?_;unfold aftB;exact Nj
  |nil=>exact JQ
theorem map_bs{a:Type}(key:a->Int)(l:List a)(t:Int):bs id (l.map key) t=bs key l t:=by
 unfold bs;rw[List.takeWhile_map,Rl];rfl
theorem map_put{a:Type}(key:a->Int)(l:List a)(x:a):(putAt l (bs key l (key x)) x).map key=putN (l.map key) (key x):=by
 unfold putN;rw[map_bs];unfold putAt;simp_all
theorem addN_ids(f:List Node)(x:Node):(addN f x).map Node.id=putN (f.map Node.id) x.id:=map_put Node.id f x
theorem fold_ids:∀(xs f:List Node),(xs.foldl addN f).map Node.id=cO (f.map Node.id) (xs.map Node.id)
 | [],f=>rfl
 |x::xs,f=>by
  rw[RY,fold_ids xs,addN_ids];rfl
theorem gone_ids(f:List Node)(i:Nat)(e:Event):(goneAt f i e).map Node.id=f.map Node.id:=by
 unfold goneAt;split
 ·rename_i x h
  obtain⟨a,b⟩:=QR.1 h;rw[UQ];have:(goneN x (if e.kind=8 then x.size else e.scrap)).id=(f.map Node.id)[i]'(by simpa using a):=by rw[List.getElem_map,b];rfl
  rw[this,List.set_getElem_self]
 ·rfl
theorem noLists{e:Event}(h:iD e)(a:e.kind≠5):e.cuts=[]/\e.rests=[] :=by
 have:=h.2.2.1 a;simp_all
theorem find_rest{s:aJ}{n:Nat}(h:Ok s n){x:aN}(a:x∈s.stocks){i:Int}(hi:sid x=i):bF5 s i=x:=by
 subst hi;unfold bF5;rw[eF7 h a];rfl
theorem find_piece{s:aJ}{n:Nat}(h:Ok s n){x:Piece}(a:x∈s.pieces){i:Int}(hi:x.id=i):bF0 s i=x:=by
 subst hi;unfold bF0;rw[dK2 h a];rfl
theorem cutsN_eq{s:aJ}{g:Made->Piece}:∀ {l:List Made} {f:List Node},(∀c∈l,bF0 s c.id=g c)->cutsN f s l=(l.map λc=>pieceN (g c) (g c).parent).foldl addN f
 | [],f,_=>rfl
 |c::l,f,h=>by
  unfold cutsN;rw[RY,h c Af,Rq,RY];exact cutsN_eq (λx hx=>h x BI)
theorem restsN_eq{s:aJ}{n:Int}{g:Rest->aN}:∀ {l:List Rest} {f:List Node},(∀r∈l,bF5 s r.id=g r)->restsN f s n l=(l.map λr=>nodeOf (g r) n).foldl addN f
 | [],f,_=>rfl
 |c::l,f,h=>by
  unfold restsN;rw[RY,h c Af,Rq,RY];exact restsN_eq (λx hx=>h x BI)
theorem put_in{a:Type}{key:a->Int}{y:a}:∀ {xs l:List a},(y∈l\/y∈xs)->y∈xs.foldl (putK key) l
 | [],l,h=>h.elim id (λh=>Ah)
 |x::xs,l,h=>by
  rw[RY];refine put_in ?_;rcases h with h|h
  ·exact .inl (fH.2 (.inr h))
  ·rcases Rh.1 h with rfl|h
   ·exact .inl (fH.2 (.inl rfl))
   ·exact .inr h
def newN(s:aJ)(x:Node):Prop:=x.id∉s.used/\x.gone=false/\x.scrap=0
inductive Grown(f:List Node)(s s':aJ)(e:Event):List Node->Prop
 |same (h:∀m'∈s'.stocks,∃m∈s.stocks,sid m=sid m'):Grown f s s' e f
 |more (xs:List Node) (h:∀x∈xs,newN s x) (hm:∀m'∈s'.stocks,(∃m∈s.stocks,sid m=sid m')\/∃x∈xs,x.id=sid m'):Grown f s s' e (xs.foldl addN f)
 |gone (xs:List Node) (h:∀x∈xs,newN s x) (h0:∃m∈s.stocks,sid m=e.id)
  (hm:∀m'∈s'.stocks,(sid m'≠e.id/\∃m∈s.stocks,sid m=sid m')\/∃x∈xs,x.id=sid m'):Grown f s s' e (xs.foldl addN (goneAt f (bs Node.id f e.id) e))
theorem node_new{s:aJ}{x:aN}{p:Int}(h:sid x∉s.used):newN s (nodeOf x p):=by
 obtain⟨a,b,_⟩:=nodeOf_gone x p;exact⟨by rw[nodeOf_id];exact h,a,b⟩
theorem put_mem{a:Type}{key:a->Int}{y:a}:∀ {xs l:List a},y∈xs.foldl (putK key) l->y∈l\/y∈xs
 | [],l,h=> .inl h
 |x::xs,l,h=>by
  rw[RY]at h;rcases put_mem h with h|h
  ·rcases fH.1 h with rfl|h
   ·exact .inr (TJ ..)
   ·exact .inl h
  ·exact .inr (Tj _ h)
theorem out_ne{c:Type}{key:c->Int}{l:List c}{k:Nat}{m y:c}(e:(l.map key).Pairwise (·<·))(d:l[k]? =some m)(a:y∈nN l k):key y≠key m:=by
 unfold nN at a;rcases QX.1 a with a|a
 ·obtain⟨j,b⟩:=List.mem_iff_getElem?.1 a
  rw[TK]at b;grind [sorted_at]
 ·obtain⟨j,b⟩:=List.mem_iff_getElem?.1 a
  rw[Si]at b;have:=sorted_at e d b Aa;omega
theorem out_other{s:aJ}{n k:Nat}{m y:aN}(b:Ok s n)(a:s.stocks[k]? =some m)(c:y∈nN s.stocks k):sid y≠sid m:=out_ne b.ss a c
theorem follow_fit{s B:aJ}{e:Event}{f:List Node}{n n':Nat}(j:f.map Node.id=s.used)(R:Ok s n)(D:Ok B n')(hn:n<=1000000)(W:iD e)(hs:Step s e B):
 (followN f B e).map Node.id=B.used/\FitN f B e/\Grown f s B e (followN f B e):=by
 have t:(f.map Node.id).Pairwise (·<·):=by
  have:=R.su;rw[List.map_id]at this;rw[j];exact this
 have v:f.length<=1000000:=by
  have:=R.lu;grind
 have G:∀ {i:Int} {x:Node},x∈f->i∉s.used->x.id≠i:=λI hi e=>hi (by rw[<-e,<-j];exact RJ I)
 have M:∀m∈s.stocks,∃x∈f,x.id=sid m:=λm A=>by
  have:=R.us m A;grind
 have C:e.kind≠5->e.kind≠1->e.kind≠2->newI B e=[] :=λh5 u z=>by
  obtain⟨T,U⟩:=noLists W h5;simp_all [Q5,newI]
 have H:e.kind≠1->e.kind≠2->e.kind≠8->e.kind≠5->followN f B e=f/\FitN f B e:=λu z h3 V=>by
  obtain⟨T,U⟩:=noLists W V;refine⟨?_,⟨t,v,λh=>Aa,λi hi=>?_,?_⟩⟩
  ·unfold followN growN
   rw[Q5 u,Q5 z,Q5 Aa,T,U];rfl
  ·rw[C V u z]at hi;cases hi
  ·rw[C V u z];exact List.Pairwise.nil
 cases hs with
 |recv x I Q=>
  have J:followN f (aX7 s x) e=addN f (nodeOf x 0):=by
   unfold followN;grind
  have L:newI (aX7 s x) e=[sid x] :=by
   unfold newI;rcases I with⟨u,z,_⟩|⟨u,z,_⟩
   ·rw[QO u,z];rfl
   ·rw[Q5 Aa,QO u,z];rfl
  refine⟨by rw[J,addN_ids,j,nodeOf_id];rfl,⟨t,v,λh=>?_,λi hi y S=>?_,?_⟩,?_⟩
  ·rcases I with⟨u,_⟩|⟨u,_⟩<;>omega
  ·rw[L]at hi
   rw[QW.1 hi];exact G S Q
  ·rw[L];exact Ub _ _
  ·rw[J]
   refine .more [nodeOf x 0] (λy S=>by rw[QW.1 S];exact node_new Q) (λE l=>?_)
   rcases fH.1 l with rfl|h
   ·exact .inr ⟨_,QW.2 rfl,nodeOf_id _ _⟩
   ·exact .inl ⟨E,h,rfl⟩
 |setK k m p N A q=>
  obtain⟨a,b⟩:=H Aa Aa Aa Aa;rw[a];refine⟨j,b, .same λE l=>?_⟩;rcases mem_set l with rfl|h
  ·exact⟨m,fC A,rfl⟩
  ·exact⟨E,h,rfl⟩
 |setP k m st o N A ab q=>
  obtain⟨a,b⟩:=H Aa Aa Aa Aa;rw[a];exact⟨j,b, .same λE l=>⟨E,l,rfl⟩⟩
 |disc k m N A q=>
  obtain⟨T,U⟩:=noLists W Aa
  have J:followN f (aX4 s k m) e=goneAt f (bs Node.id f e.id) e:=by
   unfold followN growN;rw[Q5 Aa,Q5 Aa,QO (.inl N),T,U];rfl
  rw[J,gone_ids];refine⟨j,⟨t,v,λ_=>?_,λi hi=>?_,?_⟩, .gone [] Af ⟨m,fC A,q⟩ λE l=> .inl ⟨by rw[<-q];exact out_other R A l,E,(kM _ _).subset l,rfl⟩⟩
  ·obtain⟨x,u,z⟩:=M m (fC A)
   exact⟨x,u,z.trans q⟩
  ·rw[C Aa Aa Aa]at hi;cases hi
  ·rw[C Aa Aa Aa];exact List.Pairwise.nil
 |cut k m N aa X A q hp Z hl=>
  have P:∀r∈e.rests,dZ m r∈(cut5 s e k m).stocks:=λr d=>by
   rw[aF7];grind [put_in,mV,RJ]
  have O:∀c∈e.cuts,fZ e m c∈(cut5 s e k m).pieces:=λc K=>by
   rw[aG4];exact put_in (.inr (RJ K))
  have w:∀r∈e.rests,sid (dZ m r)=r.id:=λr d=>cL1 (tZ Z r d)
  have F:(e.cuts.map (λc=>pieceN (fZ e m c) e.id)++e.rests.map λr=>nodeOf (dZ m r) e.id).map Node.id=fO e:=by
   unfold fO;rw[RF,Ur,Ur];congr 1;exact Tc λr d=>by show(nodeOf _ _).id=_;rw[nodeOf_id];exact w r d
  have J:followN f (cut5 s e k m) e=(e.cuts.map (λc=>pieceN (fZ e m c) e.id)++e.rests.map λr=>nodeOf (dZ m r) e.id).foldl addN (goneAt f (bs Node.id f e.id) e):=by
   unfold followN growN;rw[Q5 Aa,Q5 Aa,QO (.inr N),restsN_eq (g:=dZ m) (λr d=>find_rest D (P r d) (w r d)),cutsN_eq (g:=fZ e m) (λc K=>find_piece D (O c K) rfl),TR];rfl
  have L:newI (cut5 s e k m) e=fO e:=by
   unfold newI fO;rw[Q5 Aa,Q5 Aa];congr 1
   ·exact Tc λc K=>by rw[find_piece (i:=c.id) D (O c K) rfl];rfl
   ·exact Tc λr d=>by rw[find_rest D (P r d) (w r d)];exact w r d
  obtain⟨Y,f2⟩:=qJ.1 X
  have g:Grown f s (cut5 s e k m) e ((e.cuts.map (λc=>pieceN (fZ e m c) e.id)++e.rests.map λr=>nodeOf (dZ m r) e.id).foldl addN (goneAt f (bs Node.id f e.id) e)):=
   .gone _ (λx I=>by
    refine⟨Y _ (by rw[<-F];exact RJ I),?_⟩
    rcases QX.1 I with h|h
    ·obtain⟨c,K,rfl⟩:=Ru.1 h
     exact⟨rfl,rfl⟩
    ·obtain⟨r,d,rfl⟩:=Ru.1 h
     exact⟨(nodeOf_gone _ _).1,(nodeOf_gone _ _).2.1⟩) ⟨m,fC A,q⟩ λE l=>by
    rw[aF7]at l;rcases put_mem l with h|h
    ·exact .inl ⟨by rw[<-q];exact out_other R A h,E,(kM _ _).subset h,rfl⟩
    ·rw[mV Z]at h
     obtain⟨r,d,rfl⟩:=Ru.1 h;exact .inr ⟨_,QX.2 (.inr (RJ d)),nodeOf_id _ _⟩
  rw[J];refine⟨by rw[fold_ids,gone_ids,j,F];rfl,⟨t,v,λ_=>?_,λi hi y S=>?_,?_⟩,g⟩
  ·obtain⟨x,u,z⟩:=M m (fC A)
   exact⟨x,u,z.trans q⟩
  ·rw[L]at hi
   exact G S (Y i hi)
  ·rw[L];exact f2
theorem fit_all:∀(l:List Event) (s:aJ) (f:List Node) (n:Nat),Ok s n->f.map Node.id=s.used->n+moreL l<=1000000->fitAll s f l
 | [],_,_,_,_,_,_=>trivial
 |e::l,s,f,n,d,hi,m=>λi=>by
  have k:moreL (e::l)=more e+moreL l:=Hl;obtain⟨j,g⟩:=aZ6 d i;have c:=eR5 d g
  obtain⟨a,b,_⟩:=follow_fit hi d c Aa j g;exact⟨b,fit_all l _ _ _ c a Aa⟩
theorem after_spec(f:List Node)(i s:aJ)(e:Event)(h:FolOk f s e)(g:FitN f s e)(o:f.length+e.cuts.length+e.rests.length<=1000000)(p:e.kind=5->∀c∈e.cuts,(bF0 s c.id).parent=e.id):Sp 43 [.sl (f.map nodeV),invV i,invV s,aS e] (.sl ((followN f s e).map nodeV)):=by
 by_cases m:e.kind=1
 ·exact own_sl (zsp Tryz.func43 (aft1_vc f i s e h m))
 by_cases n:e.kind=2
 ·exact own_sl (zsp Tryz.func43 (aft2_vc f i s e h n))
 by_cases l:e.kind=8
 ·have d:=g.ex (.inl l)
  obtain⟨x,k,r⟩:=aB8 g.so d;exact own_sl (zsp Tryz.func43 (aft8_vc f i s e x h g.so l k d))
 by_cases j:e.kind=5
 ·have d:=g.ex (.inr j)
  obtain⟨x,k,r⟩:=aB8 g.so d;obtain⟨a,b⟩:=fit_folds g j h.ev k o;exact zsp Tryz.func43 (aft5_vc f _ i s e x h g.so j k d rfl (λD R q=>(a D R q).2) (λD R q=>(b D R q).2) (p j))
 exact own_sl (zsp Tryz.func43 (aft0_vc f i s e h ⟨m,n,j,l⟩))
theorem par_ok{s f:aJ}{e:Event}{n:Nat}(q:Ok f n)(r:Step s e f)(v:e.kind=5):∀c∈e.cuts,(bF0 f c.id).parent=e.id:=by
 cases r with
 |recv x u y=>rcases u with⟨h,_⟩|⟨h,_⟩<;>omega
 |setK k m p b d a=>omega
 |disc k m b d a=>omega
 |setP k m st o b d t a=>omega
 |cut k m b j l d a z A w=>
  intro c g;rw[find_piece (i:=c.id) q (show fZ e m c∈(cut5 s e k m).pieces by rw[aG4];exact put_in (.inr (RJ g))) rfl]
  rfl
structure EvR(e:Event):Prop where
 sz:iY e
 bg:aA4 e.sheet
 ct:e.cuts.length<=10000
 rs:e.rests.length<=10000
def rbSt(l:List Event)(s:aJ)(F:List Node)(D:List Event):St:=mkSt [(0, .sl (l.map aS)),(5, .sl (F.map nodeV)),(6, .box 6 0),(7,I D.length)] [(6,invC s)] []
theorem rbuild_spec(l:List Event)(u:∀e∈l,EvR e)(K:moreL l<=900000)(L:l.length<=1000000):Sp 14 [.sl (l.map aS)] (.tup [.sl ((buildF inv0 [] 0 l).1.map nodeV),I (buildF inv0 [] 0 l).2.1,I (buildF inv0 [] 0 l).2.2]):=by
 refine zsp Tryz.func14 ?_;have hm:(l.map aS).length=l.length:=Af;generalize z:buildF inv0 [] 0 l=q
 repeat' ((conv=>whnf);first|omega|refine zS ?_|refine zm (λx hx=>?_)|refine zT ?_ ?_<;>intro _|fail)
 refine loop_4 (A:=aJ) (B:=List Node) (C:=List Event) (D:=List Event) (λs F D R=>rbSt l s F D) (λs F D R=>l=D++R/\buildF s F D.length R=q/\F.map Node.id=s.used/\∃n,Fine s n/\n+moreL R<=900000) (λs F D R=>R.length) inv0 [] [] l ?_ ⟨rfl,z,rfl,0,gG6,Aa⟩ (λs F D R hp=>?_)
 ·refine Le.trans (le_nil _) ?_
  show Le T _ (mkSt [(0, .sl (l.map aS)),(5, .sl []),(6, .box 6 0),(7,I 0)] [(6,invC inv0)] []);exact zj
 obtain⟨hp,hq,d,n,f,y⟩:=hp
 cases R with
 |nil=>exact Jj
 |cons e R=>
  have hlen:=aO hp;have H:moreL (e::R)=more e+moreL R:=Hl
  have b:=u e Ae;have r:=fO2 f Aa b.sz b.bg b.ct b.rs
  have i:((D++[e]).length:Int)=(D.length:Int)+1:=Af;have j:buildF s F D.length (e::R)=if(appR s e).2=0 then buildF (appR s e).1 (followN F (appR s e).1 e) ((D.length:Int)+1) R else(F,(D.length:Int),(appR s e).2):=rfl
  rw[j]at hq;by_cases c:(appR s e).2=0
  ·rw[QO c]at hq
   have g:=fN9 f c;obtain⟨v,k⟩:=aZ6 f.ok c;obtain⟨E,m,_⟩:=follow_fit d f.ok g.ok Aa v k;have w:more e=1+e.cuts.length+e.rests.length:=rfl
   have t:F.length<=n:=by
    have:=f.ok.lu;have G:F.length=s.used.length:=by rw[<-d,Rl]
    omega
   have J:=after_spec F s (appR s e).1 e (fol_ok (f.ok.mono Aa) (g.ok.mono (QV _)) Aa b.sz c m) m Aa (par_ok g.ok k);rw[c]at r;clear k m;generalize followN F (appR s e).1 e=o at*;generalize appR s e=a at*
   repeat' ((conv=>whnf);first|omega|refine bW8 [(6,6),(8,8)] [(37,[88888])] Ad Aj ?_|refine cC0 [(6,6),(8,8)] Ad Aj ?_|refine zS ?_|refine zm (λx hx=>?_)|refine zT ?_ ?_<;>intro _|fail)
   all_goals conv=>whnf
   refine⟨(a.1,o,D++[e],R),?_,⟨Ae,by rw[i];exact hq,E,n+more e,g,by show n+more e+moreL R<=900000;omega⟩,Af⟩
   show Le T _ (rbSt l a.1 o (D++[e]));unfold rbSt;exact Nj
  ·rw[Q5 c]at hq
   subst hq;generalize appR s e=a at*
   repeat' ((conv=>whnf);first|omega|refine cC0 [(6,6),(8,8)] Ad Aj ?_|refine zS ?_|refine zm (λx hx=>?_)|refine zT ?_ ?_<;>intro _|fail)
   all_goals exact zE
structure Fo(s:aJ)(f:List Node):Prop where
 ids:f.map Node.id=s.used
 sc:∀x∈f,x.gone=false->x.scrap=0
 ng:∀m∈s.stocks,∀x∈f,x.id=sid m->x.gone=false
theorem Fo.so{s:aJ}{f:List Node}{n:Nat}(h:Fo s f)(a:Ok s n):SortN f:=by
 have:=a.su;rw[List.map_id]at this;show(f.map Node.id).Pairwise _;rw[h.ids];exact this
theorem aQ4{e:Event}(l:bI1 e)(m:fewE e):iY e/\e.cuts.length<=12/\e.rests.length<=8/\more e<=21:=by
 obtain⟨⟨v,w,x,j,k⟩,y⟩:=m;obtain⟨⟨⟨g,q,i⟩,r,f⟩,s,t,u⟩:=l;obtain⟨n,z,A,B,o⟩:=j;have a:e.cuts.length<=12:=Aa;have b:e.rests.length<=8:=Aa
 refine⟨⟨⟨⟨g,?_,i⟩,Aa,λd c=>⟨(f d c).1,?_,(f d c).2.2⟩⟩,by have:=k.2.2;omega,Aa,Aa⟩,a,b,He⟩
 ·have:=o.1;omega
 ·have:=(n d c).1;omega
theorem bH2{l:List Event}(h:∀e∈l,more e<=21):moreL l<=21*l.length:=by
 induction l with
 |nil=>exact QV 0
 |cons e l a=>
  grind [Rf,moreL]
def thrSt(l D:List Node):St:=match D with
 | [] =>mkSt [(0, .sl (l.map nodeV)),(2,nilV),(3,nilV),(4,I 0)] [] []
 |d::D=>mkSt [(0, .sl (l.map nodeV)),(2,nilV),(3, .arr 17 D.length),(4,I ((D.length:Int)+1))] [] [(17,⟨D.length, .own,120,(d::D).map nodeV⟩)]
theorem theirsN_spec(l:List Node)(f:l.length<=1000000):Sp 16 [.sl (l.map nodeV)] (.own 120 (l.map nodeV)):=by
 refine zsp Tryz.func16 ?_;have g:(l.map nodeV).length=l.length:=Af
 repeat' ((conv=>whnf);first|omega|refine zS ?_|refine zd (λhd=>?_) (λhd=>?_)|refine zl (λhlt=>?_) (λhlt=>?_)|refine zk (λhle=>?_) (λhle=>?_)|refine ze (λheq=>?_) (λheq=>?_)|refine zm (λx hx=>?_)|refine zb (λhbb=>?_) (λhbb=>?_))
 refine aU (A:=List Node) (B:=List Node) (λD R=>thrSt l D) (λD R=>l=D++R) (λD R=>R.length) [] l ?_ rfl (λD R hp=>?_)
 ·show Le T _ (thrSt l [])
  exact zj
 cases R with
 |cons e R=>
  have a:=aO hp
  cases D with
  |nil=>
   have c:([] :List Node).length=0:=rfl
   repeat' ((conv=>whnf);first|omega|refine gX (Q9 rfl) (dA rfl) (Q9 rfl) ?_|refine zS ?_|refine zd (λhd=>?_) (λhd=>?_)|refine zl (λhlt=>?_) (λhlt=>?_)|refine zk (λhle=>?_) (λhle=>?_)|refine ze (λheq=>?_) (λheq=>?_)|refine zm (λx hx=>?_)|refine zb (λhbb=>?_) (λhbb=>?_))
   all_goals conv=>whnf
   refine⟨([e],R),?_,Ae,Af⟩;show Le T _ (thrSt l [e]);exact zj
  |cons d D=>
   have hd:(d::D).length=D.length+1:=rfl
   repeat' ((conv=>whnf);first|omega|refine mX (l:=d::D) rfl rfl (.inl rfl) rfl (Q9 rfl) rfl Aa ?_|refine zS ?_|refine zd (λhd=>?_) (λhd=>?_)|refine zl (λhlt=>?_) (λhlt=>?_)|refine zk (λhle=>?_) (λhle=>?_)|refine ze (λheq=>?_) (λheq=>?_)|refine zm (λx hx=>?_)|refine zb (λhbb=>?_) (λhbb=>?_))
   all_goals conv=>whnf
   refine⟨(d::D++[e],R),?_,Ae,Af⟩;show Le T _ (thrSt l (d::(D++[e])));unfold thrSt;exact Ny
 |nil=>
  have a:l.length=D.length:=Ae;have b:l=D:=Ae
  clear hp;subst b
  cases l with
  |nil=>
   have c:([] :List Node).length=0:=rfl
   repeat' ((conv=>whnf);first|omega|refine zS ?_|refine zd (λhd=>?_) (λhd=>?_)|refine zl (λhlt=>?_) (λhlt=>?_)|refine zk (λhle=>?_) (λhle=>?_)|refine ze (λheq=>?_) (λheq=>?_)|refine zm (λx hx=>?_)|refine zb (λhbb=>?_) (λhbb=>?_))
   all_goals conv=>whnf
   exact⟨⟨⟨Q9 Ac,rfl⟩,trivial⟩,rfl,λrs h=>V.noConfusion h⟩
  |cons d D=>
   have hd:(d::D).length=D.length+1:=rfl;exact Oe
theorem eqRd(a b c g s i j k q t:Int)(d e f l m n:ByteArray)(o r:Bool):eqT T 4 120 [I a,I b,I c,S d,S e,S f,I g,B o,I s] [I i,I j,I k,S l,S m,S n,I q,B r,I t] =
 some (andB (eqB a i) (andB (eqB b j) (andB (eqB c k) (andB (eqSB d l) (andB (eqSB e m) (andB (eqSB f n) (andB (eqB g q) (andB (eqBB o r) (andB (eqB s t) true))))))))):=Ac
theorem eqRd_i{a b c g s:Int}{d e f:ByteArray}{o:Bool}{K:Bool->Prop}(h:K true):
 aL1.match_1 (λ_=>Prop) (eqT T 4 120 [I a,I b,I c,S d,S e,S f,I g,B o,I s] [I a,I b,I c,S d,S e,S f,I g,B o,I s]) K (λ_=>False):=by
 rw[eqRd,show andB (eqB a a) _=true by simp only[dE9,aA1,eK9,cA1,beq_iff_eq,U4]]
 exact h
theorem sameN_spec(l:List Node)(b:l.length<=1000000):Sp 15 [.sl (l.map nodeV), .sl (l.map nodeV)] (.lit (.bool true)):=by
 refine zsp Tryz.func15 ?_;have c:(l.map nodeV).length=l.length:=Af
 repeat' ((conv=>whnf);first|omega|refine zS ?_|refine zm (λx hx=>?_)|refine zT ?_ ?_<;>intro _|fail)
 refine aU (A:=List Node) (B:=List Node) (λD R=>mkSt [(0, .sl (l.map nodeV)),(1, .sl (l.map nodeV)),(5,I D.length)] [] []) (λD R=>l=D++R) (λD R=>R.length) [] l ?_ rfl (λD R hp=>?_)
 ·exact zj
 cases R with
 |nil=>
  have a:l.length=D.length:=Ae;exact Nr
 |cons x R=>
  have a:=aO hp
  repeat' ((conv=>whnf);first|omega|refine eqRd_i ?_|refine zS ?_|refine zm (λx hx=>?_)|refine zT ?_ ?_<;>intro _|fail)
  all_goals conv=>whnf
  refine⟨(D++[x],R),?_,Ae,Af⟩;exact Nj
theorem build_len:∀(l:List Event) (s:aJ) (f:List Node) (i:Int),(buildF s f i l).1.length<=f.length+moreL l
 | [],s,f,i=>Nat.le_add_right _ _
 |e::l,s,f,i=>by
  have a:moreL (e::l)=more e+moreL l:=Hl;unfold buildF;split
  ·have:=build_len l (appR s e).1 (followN f (appR s e).1 e) (i+1)
   have:= @follow_len f (appR s e).1 e;omega
  ·show f.length<=_
   omega
theorem lawBuild_spec(l:List Event)(f:Sp 10 [] (.lit (.bool true)))(j:l.length<=9223372036854775807)(c:∀e∈l,bI1 e):Sp 3 [.sl (l.map aS)] (.lit (.bool true)):=by
 refine zsp Tryz.func3 ?_;have o:=aS2 l 16 j c;by_cases g:fewL l 16;rotate_left
 ·repeat' ((conv=>whnf);first|(exfalso;contradiction)|refine zS ?_|refine zm (λx n=>?_)|refine zT ?_ ?_<;>intro _|fail)
  all_goals exact zE
 obtain⟨d,i⟩:=id g;have a:∀e∈l,iY e/\e.cuts.length<=12/\e.rests.length<=8/\more e<=21:=λe b=>aQ4 (c e b) (d e b);have k:=bH2 (λe b=>(a e b).2.2.2)
 have r:=gD4 l Aa (λe b=>⟨by have:=(a e b).2.1;omega,by have:=(a e b).2.2.1;omega⟩)
 have s:=build_spec l (λe b=>(a e b).1) Aa Aa (fit_all l inv0 [] 0 ok0 rfl Aa);have t:=rbuild_spec l (λe b=>⟨(a e b).1,(c e b).sh,by have:=(a e b).2.1;omega,by have:=(a e b).2.2.1;omega⟩) Aa Aa
 have m:=build_len l inv0 [] 0;simp only[SL]at m;have u:=theirsN_spec (buildF inv0 [] 0 l).1 Aa
 have v:=sameN_spec (buildF inv0 [] 0 l).1 Aa;generalize buildF inv0 [] 0 l=q at*
 repeat' ((conv=>whnf);first|(exfalso;contradiction)|refine zS ?_|refine zm (λx n=>?_)|refine zT ?_ ?_<;>intro _|fail)
 all_goals conv=>whnf
 exact aK rfl
end Go.Proofs.Led
