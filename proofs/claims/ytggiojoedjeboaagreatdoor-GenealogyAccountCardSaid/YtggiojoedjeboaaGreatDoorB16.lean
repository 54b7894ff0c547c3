/- Lemmas. -/
import Derived.Test.YtggiojoedjeboaaGreatDoorB7
set_option linter.all false
set_option autoImplicit true
set_option relaxedAutoImplicit true
set_option maxRecDepth 100000
set_option maxHeartbeats 8000000
noncomputable section
namespace Go.Proofs.Led
open Go Go.Proofs Go.Ab Tryz
def le_refl{T}:Le T σ σ:=by
 unfold Le;exact λΦ a w G inv=>⟨G,inv⟩
def loop_0{T}(h:x σ λe a=>match e with
 | .normal=>∃p':Unit,Le T a σ/\True/\0<0
 |e=>Q e a):bI0 T x σ Q:=lD (A:=Unit) (λ_=>σ) (λ_=>True) (λ_=>0) () le_refl trivial (λ_ _=>h)
def cutsN_snoc f s D c:cutsN f s (D++[c])=addN (cutsN f s D) (pieceN (bF0 s c.id) (bF0 s c.id).parent):=by unfold cutsN;simp
def restsN_snoc f s n D r:restsN f s n (D++[r])=addN (restsN f s n D) (nodeOf (bF5 s r.id) n):=by unfold restsN;simp
theorem map_set2(f:List Node)(k:Nat) x y:((f.map nodeV).set ((k:Int)).toNat (nodeV y)).set ((k:Int)).toNat (nodeV x)=(f.set k x).map nodeV:=by
 simp_all
def map_set3(f:List Node)(k:Nat) x y z:(((f.map nodeV).set ((k:Int)).toNat (nodeV z)).set ((k:Int)).toNat (nodeV y)).set ((k:Int)).toNat (nodeV x)=(f.set k x).map nodeV:=by
 simp_all
def folA(s:aJ)(e:Event)(F:List Node)(D:List Made):St:=mkSt [(0, .arr 0 D.length),(4, .box 4 0),(5, .box 5 0),(68, .sl (e.cuts.map dK)),(69,I e.cuts.length),(70,I D.length)] [(4,invC s),(5,iJ e)] [(0,⟨D.length, .own,36,F.map nodeV⟩)]
def folB(s:aJ)(e:Event)(F:List Node)(g:Nat)(D:List Rest):St:=mkSt [(0, .arr 0 (g+D.length)),(4, .box 4 0),(5, .box 5 0),(98, .sl (e.rests.map bY)),(99,I e.rests.length),(100,I D.length)] [(4,invC s),(5,iJ e)] [(0,⟨g+D.length, .own,36,F.map nodeV⟩)]
structure FolOk(f:List Node)(s:aJ)(e:Event):Prop where
 so:SortN f
 ln:f.length<=1000000
 ev:iY e
 lp:s.pieces.length<=1000000
 ls:s.stocks.length<=1000000
 sz:∀n,eY (bF5 s n)
 sh:e.kind=1->lK e.sheet
 no:e.kind≠5->e.cuts=[]/\e.rests=[]
def fol1_vc f s e(h:FolOk f s e)(a:e.kind=1):fnVC T Tryz.prog Tryz.f15 [.own 36 (f.map nodeV),invV s,aS e] (.own 36 ((followN f s e).map nodeV)):=by
 have b:=stockNode_spec ⟨false,e.sheet,bar0,aI⟩ 0 ⟨h.sh a,RI _⟩;have c:=addG_spec f (nodeOf ⟨false,e.sheet,bar0,aI⟩ 0) h.ln h.so
 unfold followN;rw[QJ a];exact Nh
def fol2_vc f s e(h:FolOk f s e)(a:e.kind=2):fnVC T Tryz.prog Tryz.f15 [.own 36 (f.map nodeV),invV s,aS e] (.own 36 ((followN f s e).map nodeV)):=by
 have b:=stockNode_spec ⟨true,dN,e.bar,aI⟩ 0 ⟨xZ,h.ev.br⟩;have c:=addG_spec f (nodeOf ⟨true,dN,e.bar,aI⟩ 0) h.ln h.so
 unfold followN;rw[Q9 Aa,QJ a];exact Nh
def fol8_vc f s e x(h:FolOk f s e)(g:e.kind=8)(c:f[bs Node.id f e.id]? =some x):fnVC T Tryz.prog Tryz.f15 [.own 36 (f.map nodeV),invV s,aS e] (.own 36 ((followN f s e).map nodeV)):=by
 let⟨a,b⟩:=h.no Aa;have i:=findN_spec f e.id h.ln h.so;have j:=(QK.1 c).1
 have hll:(f.map nodeV).length=f.length:=Ad;have l:=h.ln
 have d:followN f s e=f.set (bs Node.id f e.id) (goneN x x.size):=by
  unfold followN growN goneAt;rw[Q9 Aa,Q9 Aa,QJ (.inl g),c,a,b];simp[QJ g];rfl
 have n:(e.cuts.map dK).length=0:=by rw[a];rfl
 have o:(e.rests.map bY).length=0:=by rw[b];rfl
 rw[d,<-map_set3 f _ (goneN x x.size) {x with gone:=true,scrap:=e.scrap} {x with gone:=true}];clear d h a b;generalize bs Node.id f e.id=k at*;generalize (∃m∈f,m.id=e.id)=P at*
 repeat' ((conv=>whnf);first|omega|refine cC0 [(0,77777),(5,5),(45,77777),(47,77777),(49,5),(51,77777),(52,77777),(53,77777),(54,77777)] Af Am ?_|(refine aS5 (i) true ?_ rfl ?_;focus ((repeat' (first|exact trivial|refine And.intro ?_ ?_|with_reducible rfl|exact(λh=>Ah)|exact rfl));done))|refine dS rfl rfl Fe ?_|refine dS rfl rfl Cb ?_|refine dB8 rfl rfl ?_|refine cV1 rfl Gt ?_|refine loop_0 ?_|refine zS ?_|refine zm (λx c=>?_)|refine zT ?_ ?_<;>intro _|fail)
 all_goals exact zE
def fol5_vc f F0 s e x(h:FolOk f s e)(H:e.kind=5)(hx:f[bs Node.id f e.id]? =some x)(j:F0=f.set (bs Node.id f e.id) (goneN x e.scrap))
 (v:∀D R,e.cuts=D++R->SortN (cutsN F0 s D)/\(cutsN F0 s D).length<=1000000)(F:∀D R,e.rests=D++R->SortN (restsN (cutsN F0 s e.cuts) s e.id D)/\(restsN (cutsN F0 s e.cuts) s e.id D).length<=1000000):
 fnVC T Tryz.prog Tryz.f15 [.own 36 (f.map nodeV),invV s,aS e] (.own 36 ((followN f s e).map nodeV)):=by
 have z:=findN_spec f e.id h.ln h.so;have J:=(QK.1 hx).1
 have hll:(f.map nodeV).length=f.length:=Ad;have K:=h.ln
 have G:=h.ev.ct;have M:=h.ev.rs
 have n:(e.cuts.map dK).length=e.cuts.length:=Ad;have o:(e.rests.map bY).length=e.rests.length:=Ad
 have u:followN f s e=restsN (cutsN F0 s e.cuts) s e.id e.rests:=by
  unfold followN growN goneAt;rw[Q9 Aa,Q9 Aa,QJ (.inr H),hx,j];simp[Q9 (show¬e.kind=8 from Aa)]
 have y:F0.map nodeV=((f.map nodeV).set ((bs Node.id f e.id:Nat):Int).toNat (nodeV {x with gone:=true})).set ((bs Node.id f e.id:Nat):Int).toNat (nodeV (goneN x e.scrap)):=by rw[j,map_set2]
 rw[u];have L:=h.lp;have N:=h.ls
 have O:=h.sz;clear u h j;generalize bs Node.id f e.id=k at*;generalize (∃m∈f,m.id=e.id)=P at*
 repeat' ((conv=>whnf);first|omega|refine cC0 [(0,77777),(5,5),(45,77777),(47,77777),(49,5),(51,77777),(52,77777),(53,77777),(54,77777)] Af Am ?_|(refine aS5 (z) true ?_ rfl ?_;focus ((repeat' (first|exact trivial|refine And.intro ?_ ?_|with_reducible rfl|exact(λh=>Ah)|exact rfl));done))|refine dS rfl rfl Fe ?_|refine dS rfl rfl Cb ?_|refine dB8 rfl rfl ?_|refine cV1 rfl Gt ?_|refine zS ?_|refine zm (λx hx=>?_)|refine zT ?_ ?_<;>intro _|fail)
 refine aU (A:=List Made) (B:=List Made) (λD R=>folA s e (cutsN F0 s D) D) (λD R=>e.cuts=D++R) (λD R=>R.length) [] e.cuts ?_ rfl (λD R hp2=>?_)
 ·show Le T _ (mkSt [(0, .arr 0 0),(4, .box 4 0),(5, .box 5 0),(68, .sl (e.cuts.map dK)),(69,I e.cuts.length),(70,I 0)] [(4,invC s),(5,iJ e)] [(0,⟨0, .own,36,F0.map nodeV⟩)])
  rw[y,<-n];exact zj
 cases R with
 |cons c R=>
  have g:=aO hp2;have l:((D++[c]).length:Int)=(D.length:Int)+1:=Ad
  let⟨r,t⟩:=v D (c::R) hp2;have C:=bG3 s c.id L;have E:=addG_spec (cutsN F0 s D) (pieceN (bF0 s c.id) (bF0 s c.id).parent) t r
  have d:=cutsN_snoc F0 s D c;generalize bF0 s c.id=q at*;generalize (∃m∈s.pieces,m.id=c.id)=Q at*;generalize addN (cutsN F0 s D) (pieceN q q.parent)=w at*;generalize cutsN F0 s D=a at*
  repeat' ((conv=>whnf);first|omega|refine zS ?_|refine zm (λx hx=>?_)|refine zT ?_ ?_<;>intro _|fail)
  all_goals conv=>whnf
  refine⟨(D++[c],R),?_,GR,Ad⟩;show Le T _ (folA s e (cutsN F0 s (D++[c])) (D++[c]));rw[d];unfold folA;exact MZ
 |nil=>
  have g:e.cuts.length=D.length:=GR;have i:e.cuts=D:=GR
  clear v;rw[<-i]at*;clear hp2 i;generalize cutsN F0 s e.cuts=a at*
  repeat' ((conv=>whnf);first|omega|refine zS ?_|refine zm (λx hx=>?_)|refine zT ?_ ?_<;>intro _|fail)
  refine aU (A:=List Rest) (B:=List Rest) (λD R=>folB s e (restsN a s e.id D) e.cuts.length D) (λD R=>e.rests=D++R) (λD R=>R.length) [] e.rests ?_ rfl (λD R hp2=>?_)
  ·show Le T _ (mkSt [(0, .arr 0 e.cuts.length),(4, .box 4 0),(5, .box 5 0),(98, .sl (e.rests.map bY)),(99,I e.rests.length),(100,I 0)] [(4,invC s),(5,iJ e)] [(0,⟨e.cuts.length, .own,36,a.map nodeV⟩)])
   rw[<-o];exact zj
  cases R with
  |cons c R=>
   have b:=aO hp2;have l:((D++[c]).length:Int)=(D.length:Int)+1:=Ad
   let⟨r,t⟩:=F D (c::R) hp2;have C:=bH9 s c.id N;have E:=stockNode_spec (bF5 s c.id) e.id (O c.id)
   have U:=addG_spec (restsN a s e.id D) (nodeOf (bF5 s c.id) e.id) t r;have d:=restsN_snoc a s e.id D c
   generalize addN (restsN a s e.id D) (nodeOf (bF5 s c.id) e.id)=S at*;generalize nodeOf (bF5 s c.id) e.id=V at*;generalize bF5 s c.id=q at*;generalize (∃m∈s.stocks,sid m=c.id)=Q at*;generalize restsN a s e.id D=w at*
   repeat' ((conv=>whnf);first|omega|refine zS ?_|refine zm (λx hx=>?_)|refine zT ?_ ?_<;>intro _|fail)
   all_goals conv=>whnf
   refine⟨(D++[c],R),?_,GR,Ad⟩;show Le T _ (folB s e (restsN a s e.id (D++[c])) e.cuts.length (D++[c]));rw[d];unfold folB;simp[QN,QU,<-TI];exact zj
  |nil=>
   have b:e.rests.length=D.length:=GR;have i:e.rests=D:=GR
   rw[i];exact Nh
def fol0_vc f s e(h:FolOk f s e)(c:e.kind≠1/\e.kind≠2/\e.kind≠5/\e.kind≠8):fnVC T Tryz.prog Tryz.f15 [.own 36 (f.map nodeV),invV s,aS e] (.own 36 ((followN f s e).map nodeV)):=by
 let⟨a,b⟩:=h.no c.2.2.1;have g:(e.cuts.map dK).length=0:=by rw[a];rfl
 have i:(e.rests.map bY).length=0:=by rw[b];rfl
 have d:followN f s e=f:=by
  unfold followN growN;rw[Q9 c.1,Q9 c.2.1,Q9 Aa,a,b];rfl
 rw[d];clear d h a b
 repeat' ((conv=>whnf);first|omega|refine loop_0 ?_|refine zS ?_|refine zm (λx j=>?_)|refine zT ?_ ?_<;>intro _|fail)
 all_goals exact zE
def foldN_sorted{xs f:List Node}(h:SortN f)(a:∀x∈xs,∀y∈f,y.id≠x.id)(b:(xs.map Node.id).Pairwise (·≠·)):SortN (xs.foldl addN f)/\(xs.foldl addN f).length=f.length+xs.length/\∀y,y∈xs.foldl addN f↔y∈f\/y∈xs:=by
 have:=bE9 (key:=Node.id) h a b;exact⟨this.1,this.2.2,this.2.1⟩
theorem cutsN_fold:∀ {l} {f},cutsN f s l=(l.map λc=>pieceN (bF0 s c.id) (bF0 s c.id).parent).foldl addN f
 | [],f=>rfl
 |c::l,f=>by unfold cutsN;rw[RG,QW,RG];exact cutsN_fold
theorem restsN_fold:∀ {l} {f},restsN f s n l=(l.map λr=>nodeOf (bF5 s r.id) n).foldl addN f
 | [],f=>rfl
 |c::l,f=>by unfold restsN;rw[RG,QW,RG];exact restsN_fold
def fit_folds(h:FitN f s e)(M:e.kind=5)(L:iY e)(I:f[bs Node.id f e.id]? =some x)(N:f.length+e.cuts.length+e.rests.length<=1000000):
 (∀D R,e.cuts=D++R->SortN (cutsN (f.set (bs Node.id f e.id) (goneN x e.scrap)) s D)/\(cutsN (f.set (bs Node.id f e.id) (goneN x e.scrap)) s D).length<=1000000)/\
 ∀D R,e.rests=D++R->SortN (restsN (cutsN (f.set (bs Node.id f e.id) (goneN x e.scrap)) s e.cuts) s e.id D)/\(restsN (cutsN (f.set (bs Node.id f e.id) (goneN x e.scrap)) s e.cuts) s e.id D).length<=1000000:=by
 have G:newI s e=e.cuts.map (λc=>(bF0 s c.id).id)++e.rests.map λr=>sid (bF5 s r.id):=by unfold newI;rw[Q9 (by omega),Q9 (by omega)]
 have g:(f.set (bs Node.id f e.id) (goneN x e.scrap)).map Node.id=f.map Node.id:=bY6 I rfl;have u:SortN (f.set (bs Node.id f e.id) (goneN x e.scrap)):=by show(_:List Int).Pairwise _;rw[g];exact h.so
 have b:∀y∈f.set (bs Node.id f e.id) (goneN x e.scrap),∀i∈newI s e,y.id≠i:=λy a i hi=>by
  have:y.id∈f.map Node.id:=by rw[<-g];exact Rn a
  let⟨z,o,l⟩:=QZ.1 this;rw[<-l];exact h.nw i hi z o
 have j:=h.df;rw[G]at j b;have v:(f.set (bs Node.id f e.id) (goneN x e.scrap)).length=f.length:=Ad
 generalize f.set (bs Node.id f e.id) (goneN x e.scrap)=F at*
 have k:∀D R,e.cuts=D++R->SortN (cutsN F s D)/\(cutsN F s D).length=F.length+D.length/\∀y∈cutsN F s D,y∈F\/∃c∈D,y.id=(bF0 s c.id).id:=by
  intro D R d;rw[cutsN_fold];have l:(D.map λc=>pieceN (bF0 s c.id) (bF0 s c.id).parent).map Node.id=D.map λc=>(bF0 s c.id).id:=by rw[Tq];rfl
  let⟨q,t,A⟩:=foldN_sorted (xs:=D.map λc=>pieceN (bF0 s c.id) (bF0 s c.id).parent) u (λz o y a=>by
   obtain⟨c,m,rfl⟩:=QZ.1 o
   exact b y a _ (QS.2 (.inl (QZ.2 ⟨c,by rw[d];simp[m],rfl⟩)))) (by
   rw[l];have:=(RN.1 j).1;rw[d,Rw]at this;exact(RN.1 this).1)
  refine⟨q,by rw[t,Rj],λy a=>?_⟩
  rcases(A y).1 a with a|a
  ·exact .inl a
  ·obtain⟨c,m,rfl⟩:=QZ.1 a
   exact .inr ⟨c,m,rfl⟩
 refine⟨λD R d=>?_,λD R d=>?_⟩
 ·let⟨q,t,_⟩:=k D R d
  have:=Ru List.length d;rw[QN]at this;exact⟨q,Aa⟩
 ·let⟨B,K,C⟩:=k e.cuts [] (Rh _).symm
  rw[restsN_fold]
  have l:(D.map λr=>nodeOf (bF5 s r.id) e.id).map Node.id=D.map λr=>sid (bF5 s r.id):=by
   rw[Tq];exact SL λr _=>nodeOf_id _ _
  let⟨O,w,J⟩:=RN.1 j
  let⟨q,t,A⟩:=foldN_sorted (xs:=D.map λr=>nodeOf (bF5 s r.id) e.id) B (λz o y a=>by
   obtain⟨r,H,rfl⟩:=QZ.1 o;rw[nodeOf_id];have n:sid (bF5 s r.id)∈e.rests.map λr=>sid (bF5 s r.id):=QZ.2 ⟨r,by rw[d];simp[H],rfl⟩
   rcases C y a with a|⟨c,m,E⟩
   ·exact b y a _ (QS.2 (.inr n))
   ·rw[E]
    exact J _ (QZ.2 ⟨c,m,rfl⟩) _ n) (by
   rw[l];rw[d,Rw]at w;exact(RN.1 w).1)
  have:=Ru List.length d;rw[QN]at this;rw[Rj]at t;exact⟨q,Aa⟩
def follow_spec f s e(h:FolOk f s e)(c:FitN f s e)(l:f.length+e.cuts.length+e.rests.length<=1000000):Sp 15 [.own 36 (f.map nodeV),invV s,aS e] (.own 36 ((followN f s e).map nodeV)):=by
 refine zsp func15 ?_;by_cases j:e.kind=1
 ·exact fol1_vc f s e h j
 by_cases k:e.kind=2
 ·exact fol2_vc f s e h k
 by_cases i:e.kind=8
 ·let⟨x,g,m⟩:=aB8 c.so (c.ex (.inl i))
  exact fol8_vc f s e x h i g
 by_cases d:e.kind=5
 ·let⟨x,g,m⟩:=aB8 c.so (c.ex (.inr d))
  let⟨a,b⟩:=fit_folds c d h.ev g l;exact fol5_vc f _ s e x h d g rfl a b
 exact fol0_vc f s e h ⟨j,k,d,i⟩
def find_sized(h:Ok s n) i:eY (bF5 s i):=by
 unfold bF5
 cases a:s.stocks[fst (λx=>sid x=i) s.stocks]? with
 |none=>exact⟨xZ,by simp[wS,bar0]⟩
 |some x=>exact h.sz x (fC a)
def fol_ok(hs:Ok s n)(hs':Ok s' n)(hn:n<=1000000)(he:iY e)(h0:(appR s e).2=0)(hf:FitN f s' e):FolOk f s' e where
 so:=hf.so
 ln:=hf.ln
 ev:=he
 lp:=Rl hs'.lp hn
 ls:=Rl hs'.ls hn
 sz:=find_sized hs'
 sh:=λhk=>aX9 ((aZ6 hs h0).1.2.2.2.1 hk).2
 no:=λhk=>by
  have:=(aZ6 hs h0).1.2.2.1 hk;simp_all
theorem addN_len f x:(addN f x).length=f.length+1:=mQ
def follow_len:(followN f s e).length<=f.length+more e:=by
 have c:∀ l  f ,(cutsN f s l).length=f.length+l.length:=by
  intro l
  induction l<;>grind [addN_len,QX,cutsN]
 have r:∀ n  l  f ,(restsN f s n l).length=f.length+l.length:=by
  intro n l
  induction l<;>grind [addN_len,QX,restsN]
 grind [Tv,addN_len,goneAt,followN,growN,more]
def loop_4{T:Tab}{σ:St}{x:aA2}{Q:Exit->St->Prop}{A B C D:Type}(st:A->B->C->D->St)(inv:A->B->C->D->Prop)(m:A->B->C->D->Nat)(g:A)(i:B)(j:C)(d0:D)(k:Le T σ (st g i j d0))(l:inv g i j d0)(h:∀a b c d,inv a b c d->x (st a b c d) λe f=>match e with
 | .normal=>∃p':A×B×C×D,Le T f (st p'.1 p'.2.1 p'.2.2.1 p'.2.2.2)/\inv p'.1 p'.2.1 p'.2.2.1 p'.2.2.2/\m p'.1 p'.2.1 p'.2.2.1 p'.2.2.2<m a b c d
 |e=>Q e f):bI0 T x σ Q:=
 lD (A:=A×B×C×D) (λp=>st p.1 p.2.1 p.2.2.1 p.2.2.2) (λp=>inv p.1 p.2.1 p.2.2.1 p.2.2.2) (λp=>m p.1 p.2.1 p.2.2.1 p.2.2.2) (g,i,j,d0) k l (λp n=>h p.1 p.2.1 p.2.2.1 p.2.2.2 n)
def bldSt(l:List Event)(s:aJ)(F:List Node)(D:List Event):St:=mkSt [(0, .sl (l.map aS)),(2, .arr 32 D.length),(3,I 0),(4,I 0),(5, .box 5 0),(10, .sl (l.map aS)),(11,I l.length),(12,I D.length)] [(5,invC s)] [(32,⟨D.length, .own,36,F.map nodeV⟩)]
def build_spec(l:List Event)(G:∀e∈l,iY e)(P:moreL l<=1000000)(Q:l.length<=1000000)(H:fitAll inv0 [] l):Sp 6 [.sl (l.map aS)] (.tup [.own 36 ((buildF inv0 [] 0 l).1.map nodeV),I (buildF inv0 [] 0 l).2.1,I (buildF inv0 [] 0 l).2.2]):=by
 refine zsp func6 ?_;have u:(l.map aS).length=l.length:=Ad;generalize L:buildF inv0 [] 0 l=q
 repeat' ((conv=>whnf);first|omega|refine zS ?_|refine zm (λx hx=>?_)|refine zT ?_ ?_<;>intro _|fail)
 refine loop_4 (A:=aJ) (B:=List Node) (C:=List Event) (D:=List Event) (λs F D R=>bldSt l s F D) (λs F D R=>l=D++R/\buildF s F D.length R=q/\fitAll s F R/\∃n,Ok s n/\F.length<=n/\n+moreL R<=1000000) (λs F D R=>R.length) inv0 [] [] l ?_ ⟨rfl,L,H,0,ok0,QR _,Aa⟩ (λs F D R hp=>?_)
 ·show Le T _ (mkSt [(0, .sl (l.map aS)),(2, .arr 32 0),(3,I 0),(4,I 0),(5, .box 5 0),(10, .sl (l.map aS)),(11,I l.length),(12,I 0)] [(5,invC inv0)] [(32,⟨0, .own,36,[]⟩)])
  rw[<-u];exact zj
 obtain⟨hp,d,i,n,v,E,K⟩:=hp
 cases R with
 |nil=>
  have b:l.length=D.length:=Ae;have e:q=(F,(D.length:Int),0):=by rw[<-d];rfl
  rw[e]
  repeat' ((conv=>whnf);first|omega|refine zS ?_|refine zm (λx hx=>?_)|refine zT ?_ ?_<;>intro _|fail)
  all_goals conv=>whnf
  refine⟨_,rfl,?_⟩;rw[u,b]
  (repeat' (first|exact trivial|refine And.intro ?_ ?_|with_reducible rfl|exact(λh=>Ah)|exact rfl));done
 |cons e R=>
  have b:=aO hp;have M:moreL (e::R)=more e+moreL R:=FN
  have f:=G e Ae;have g:=kG v (e:=e) Aa f
  obtain⟨y,z⟩:=g;have m:((D++[e]).length:Int)=(D.length:Int)+1:=Ad;have o:buildF s F D.length (e::R)=if(appR s e).2=0 then buildF (appR s e).1 (followN F (appR s e).1 e) ((D.length:Int)+1) R else(F,(D.length:Int),(appR s e).2):=rfl
  have k:fitAll s F (e::R)=((appR s e).2=0->FitN F (appR s e).1 e/\fitAll (appR s e).1 (followN F (appR s e).1 e) R):=rfl;rw[o]at d;rw[k]at i;by_cases c:(appR s e).2=0
  ·rw[QJ c]at d
   have t:=z c;obtain⟨r,w⟩:=i c;have J:more e=1+e.cuts.length+e.rests.length:=rfl
   have N:=follow_spec F (appR s e).1 e (fol_ok (v.mono Aa) (t.mono (QR _)) Aa f c r) r Aa;have O:= @follow_len F (appR s e).1 e
   rw[c]at y;generalize followN F (appR s e).1 e=j at*;generalize appR s e=a at*
   repeat' ((conv=>whnf);first|omega|refine zS ?_|refine zm (λx hx=>?_)|refine zT ?_ ?_<;>intro _|fail)
   all_goals conv=>whnf
   refine⟨(a.1,j,D++[e],R),?_,⟨Ae,by rw[m];exact d,w,n+more e,t,by show j.length<=_;omega,by show n+more e+moreL R<=1000000;omega⟩,Ad⟩
   show Le T _ (bldSt l a.1 j (D++[e]));unfold bldSt;exact MZ
  ·rw[Q9 c]at d
   subst d;generalize appR s e=a at*;exact Nh
theorem map_bs key(l:List a) t:bs id (l.map key) t=bs key l t:=by
 unfold bs;rw[List.takeWhile_map,Rj];rfl
def map_put key l(x:a):(putAt l (bs key l (key x)) x).map key=putN (l.map key) (key x):=by
 unfold putN;rw[map_bs];unfold putAt;simp_all
theorem addN_ids f x:(addN f x).map Node.id=putN (f.map Node.id) x.id:=map_put Node.id f x
theorem fold_ids:∀(xs f:List Node),(xs.foldl addN f).map Node.id=cO (f.map Node.id) (xs.map Node.id)
 | [],f=>rfl
 |x::xs,f=>by
  rw[RG,fold_ids xs,addN_ids];rfl
theorem gone_ids f i e:(goneAt f i e).map Node.id=f.map Node.id:=by
 unfold goneAt;split
 ·rename_i x h
  let⟨a,b⟩:=QK.1 h;rw[UN];have:(goneN x (if e.kind=8 then x.size else e.scrap)).id=(f.map Node.id)[i]'(by simpa using a):=by rw[List.getElem_map,b];rfl
  rw[this,List.set_getElem_self]
 ·rfl
def noLists(h:iD e)(a:e.kind≠5):e.cuts=[]/\e.rests=[] :=by
 have:=h.2.2.1 a;simp_all
def find_rest(h:Ok s n)(a:x∈s.stocks)(hi:sid x=i):bF5 s i=x:=by
 subst hi;unfold bF5;rw[eF7 h a];rfl
def find_piece(h:Ok s n)(a:x∈s.pieces)(hi:x.id=i):bF0 s i=x:=by
 subst hi;unfold bF0;rw[dK2 h a];rfl
def cutsN_eq{g:Made->Piece}:∀ {l} {f},(∀c∈l,bF0 s c.id=g c)->cutsN f s l=(l.map λc=>pieceN (g c) (g c).parent).foldl addN f
 | [],f,_=>rfl
 |c::l,f,h=>by
  unfold cutsN;rw[RG,h c Ad,QW,RG];exact cutsN_eq (λx hx=>h x BI)
def restsN_eq{g:Rest->aN}:∀ {l} {f},(∀r∈l,bF5 s r.id=g r)->restsN f s n l=(l.map λr=>nodeOf (g r) n).foldl addN f
 | [],f,_=>rfl
 |c::l,f,h=>by
  unfold restsN;rw[RG,h c Ad,QW,RG];exact restsN_eq (λx hx=>h x BI)
theorem put_in:∀ {xs l:List a},(y∈l\/y∈xs)->y∈xs.foldl (putK key) l
 | [],l,h=>h.elim id (λh=>Ah)
 |x::xs,l,h=>by
  rw[RG];refine put_in ?_;rcases h with h|h
  ·exact .inl (fH.2 (.inr h))
  ·rcases QY.1 h with rfl|h
   ·exact .inl (fH.2 (.inl rfl))
   ·exact .inr h
def newN(s:aJ)(x:Node):Prop:=x.id∉s.used/\x.gone=false/\x.scrap=0
inductive Grown(f:List Node)(s s':aJ)(e:Event):List Node->Prop
 |same (h:∀m'∈s'.stocks,∃m∈s.stocks,sid m=sid m'):Grown f s s' e f
 |more (xs:List Node) (h:∀x∈xs,newN s x) (hm:∀m'∈s'.stocks,(∃m∈s.stocks,sid m=sid m')\/∃x∈xs,x.id=sid m'):Grown f s s' e (xs.foldl addN f)
 |gone (xs:List Node) (h:∀x∈xs,newN s x) (h0:∃m∈s.stocks,sid m=e.id)
  (hm:∀m'∈s'.stocks,(sid m'≠e.id/\∃m∈s.stocks,sid m=sid m')\/∃x∈xs,x.id=sid m'):Grown f s s' e (xs.foldl addN (goneAt f (bs Node.id f e.id) e))
def node_new(h:sid x∉s.used):newN s (nodeOf x p):=by
 let⟨a,b,_⟩:=nodeOf_gone x p;exact⟨by rw[nodeOf_id];exact h,a,b⟩
def put_mem:∀ {xs l:List a},y∈xs.foldl (putK key) l->y∈l\/y∈xs
 | [],l,h=> .inl h
 |x::xs,l,h=>by
  rw[RG]at h;rcases put_mem h with h|h
  ·rcases fH.1 h with rfl|h
   ·exact .inr (Sv ..)
   ·exact .inl h
  ·exact .inr (RS _ h)
def out_ne{key:c->Int}(e:(l.map key).Pairwise (·<·))(d:l[k]? =some m)(a:y∈nN l k):key y≠key m:=by
 unfold nN at a;rcases QS.1 a with a|a
 ·let⟨j,b⟩:=List.mem_iff_getElem?.1 a
  rw[TL]at b;grind [sorted_at]
 ·let⟨j,b⟩:=List.mem_iff_getElem?.1 a
  rw[RX]at b;have:=sorted_at e d b Aa;omega
def out_other(b:Ok s n)(a:s.stocks[k]? =some m)(c:y∈nN s.stocks k):sid y≠sid m:=out_ne b.ss a c
def follow_fit(d:f.map Node.id=s.used)(O:Ok s n)(A:Ok s' n')(hn:n<=1000000)(T:iD e)(hs:Step s e s'):
 (followN f s' e).map Node.id=s'.used/\FitN f s' e/\Grown f s s' e (followN f s' e):=by
 have q:(f.map Node.id).Pairwise (·<·):=by
  have:=O.su;rw[List.map_id]at this;rw[d];exact this
 have u:f.length<=1000000:=by
  have:=O.lu;grind
 have D:∀ {i:Int} {x:Node},x∈f->i∉s.used->x.id≠i:=λF hi e=>hi (by rw[<-e,<-d];exact Rn F)
 have J:∀m∈s.stocks,∃x∈f,x.id=sid m:=λm w=>by
  have:=O.us m w;grind
 have z:e.kind≠5->e.kind≠1->e.kind≠2->newI s' e=[] :=λY t v=>by
  let⟨Q,R⟩:=noLists T Y;simp_all [Q9,newI]
 have E:e.kind≠1->e.kind≠2->e.kind≠8->e.kind≠5->followN f s' e=f/\FitN f s' e:=λt v h3 S=>by
  let⟨Q,R⟩:=noLists T S;refine⟨?_,⟨q,u,λh=>Aa,λi hi=>?_,?_⟩⟩
  ·unfold followN growN
   rw[Q9 t,Q9 v,Q9 Aa,Q,R];rfl
  ·rw[z S t v]at hi;cases hi
  ·rw[z S t v];exact List.Pairwise.nil
 cases hs with
 |recv x F N=>
  have G:followN f (aX7 s x) e=addN f (nodeOf x 0):=by
   unfold followN;grind
  have I:newI (aX7 s x) e=[sid x] :=by
   unfold newI;rcases F with⟨t,v,_⟩|⟨t,v,_⟩
   ·rw[QJ t,v];rfl
   ·rw[Q9 Aa,QJ t,v];rfl
  refine⟨by rw[G,addN_ids,d,nodeOf_id];rfl,⟨q,u,λh=>?_,λi hi y P=>?_,?_⟩,?_⟩
  ·rcases F with⟨t,_⟩|⟨t,_⟩<;>omega
  ·rw[I]at hi
   rw[QT.1 hi];exact D P N
  ·rw[I];exact TY _ _
  ·rw[G]
   refine .more [nodeOf x 0] (λy P=>by rw[QT.1 P];exact node_new N) (λB j=>?_)
   rcases fH.1 j with rfl|h
   ·exact .inr ⟨_,QT.2 rfl,nodeOf_id _ _⟩
   ·exact .inl ⟨B,h,rfl⟩
 |setK k m p K w l=>
  let⟨a,b⟩:=E Aa Aa Aa Aa;rw[a];refine⟨d,b, .same λB j=>?_⟩;rcases mem_set j with rfl|h
  ·exact⟨m,fC w,rfl⟩
  ·exact⟨B,h,rfl⟩
 |setP k m st o K w aa l=>
  let⟨a,b⟩:=E Aa Aa Aa Aa;rw[a];exact⟨d,b, .same λB j=>⟨B,j,rfl⟩⟩
 |disc k m K w l=>
  let⟨Q,R⟩:=noLists T Aa
  have G:followN f (aX4 s k m) e=goneAt f (bs Node.id f e.id) e:=by
   unfold followN growN;rw[Q9 Aa,Q9 Aa,QJ (.inl K),Q,R];rfl
  rw[G,gone_ids];refine⟨d,⟨q,u,λ_=>?_,λi hi=>?_,?_⟩, .gone [] Ad ⟨m,fC w,l⟩ λB j=> .inl ⟨by rw[<-l];exact out_other O w j,B,(kM _ _).subset j,rfl⟩⟩
  ·let⟨x,t,v⟩:=J m (fC w)
   exact⟨x,t,v.trans l⟩
  ·rw[z Aa Aa Aa]at hi;cases hi
  ·rw[z Aa Aa Aa];exact List.Pairwise.nil
 |cut k m K Z U w l hp W hl=>
  have M:∀r∈e.rests,dZ m r∈(cut5 s e k m).stocks:=λr hr'=>by
   rw[aF7];grind [put_in,mV,Rn]
  have L:∀c∈e.cuts,fZ e m c∈(cut5 s e k m).pieces:=λc H=>by
   rw[aG4];exact put_in (.inr (Rn H))
  have hrid:=λr hr'=>cL1 (tZ W r hr');have C:(e.cuts.map (λc=>pieceN (fZ e m c) e.id)++e.rests.map λr=>nodeOf (dZ m r) e.id).map Node.id=fO e:=KX
  have G:followN f (cut5 s e k m) e=(e.cuts.map (λc=>pieceN (fZ e m c) e.id)++e.rests.map λr=>nodeOf (dZ m r) e.id).foldl addN (goneAt f (bs Node.id f e.id) e):=by
   unfold followN growN;rw[Q9 Aa,Q9 Aa,QJ (.inr K),restsN_eq (g:=dZ m) (λr hr'=>find_rest A (M r hr') (hrid r hr')),cutsN_eq (g:=fZ e m) (λc H=>find_piece A (L c H) rfl),TG];rfl
  have I:newI (cut5 s e k m) e=fO e:=by
   unfold newI fO;rw[Q9 Aa,Q9 Aa];congr 1
   ·exact SL λc H=>by rw[find_piece (i:=c.id) A (L c H) rfl];rfl
   ·exact SL λr hr'=>by rw[find_rest A (M r hr') (hrid r hr')];exact hrid r hr'
  let⟨V,X⟩:=qJ.1 U
  have g:Grown f s (cut5 s e k m) e ((e.cuts.map (λc=>pieceN (fZ e m c) e.id)++e.rests.map λr=>nodeOf (dZ m r) e.id).foldl addN (goneAt f (bs Node.id f e.id) e)):=
   .gone _ (λx F=>by
    refine⟨V _ (by rw[<-C];exact Rn F),?_⟩
    rcases QS.1 F with h|h
    ·obtain⟨c,H,rfl⟩:=QZ.1 h
     exact⟨rfl,rfl⟩
    ·obtain⟨r,hr',rfl⟩:=QZ.1 h
     exact⟨(nodeOf_gone _ _).1,(nodeOf_gone _ _).2.1⟩) ⟨m,fC w,l⟩ λB j=>by
    rw[aF7]at j;rcases put_mem j with h|h
    ·exact .inl ⟨by rw[<-l];exact out_other O w h,B,(kM _ _).subset h,rfl⟩
    ·rw[mV W]at h
     obtain⟨r,hr',rfl⟩:=QZ.1 h;exact .inr ⟨_,QS.2 (.inr (Rn hr')),nodeOf_id _ _⟩
  rw[G];refine⟨by rw[fold_ids,gone_ids,d,C];rfl,⟨q,u,λ_=>?_,λi hi y P=>?_,?_⟩,g⟩
  ·let⟨x,t,v⟩:=J m (fC w)
   exact⟨x,t,v.trans l⟩
  ·rw[I]at hi
   exact D P (V i hi)
  ·rw[I];exact X
def fit_all:∀ l  s  f  n,Ok s n->f.map Node.id=s.used->n+moreL l<=1000000->fitAll s f l
 | [],_,_,_,_,_,_=>trivial
 |e::l,s,f,n,d,hi,m=>λi=>by
  have k:moreL (e::l)=more e+moreL l:=FN;let⟨j,g⟩:=aZ6 d i;have c:=eR5 d g
  let⟨a,b,_⟩:=follow_fit hi d c Aa j g;exact⟨b,fit_all l _ _ _ c a Aa⟩
def mem_set_at{a:Type}{l:List a}{m x}(b:l[k]? =some m):x∈l.set k x:=by
 let⟨h,_⟩:=QK.1 b;exact List.mem_iff_getElem?.2 ⟨k,by rw[List.getElem?_set_self h]⟩
def mem_at{c:Type}{l:List c}{x y z}(b:l[i]? =some x):z∈l.set i y↔z=y\/∃j,j≠i/\l[j]? =some z:=by
 let⟨hi,_⟩:=QK.1 b;constructor
 ·intro h
  let⟨j,a⟩:=Ro h;grind
 ·rintro(rfl|⟨j,a,h⟩)
  ·exact mem_set_at b
  ·exact List.mem_iff_getElem?.2 ⟨j,by rw[List.getElem?_set,Q9 (λe=>a e.symm)];exact h⟩
def set_mem{f:List Node}(h:(f.map Node.id).Pairwise (·<·))(b:f[i]? =some x):z∈f.set i y↔z=y\/(z∈f/\z.id≠x.id):=by
 rw[mem_at b];refine or_congr RF ⟨?_,?_⟩
 ·grind [fC,Nat.lt_or_gt_of_ne,sorted_at]
 ·rintro⟨c,a⟩
  let⟨j,d⟩:=Ro c;grind
structure Fo(s:aJ)(f:List Node):Prop where
 ids:f.map Node.id=s.used
 sc:∀x∈f,x.gone=false->x.scrap=0
 ng:∀m∈s.stocks,∀x∈f,x.id=sid m->x.gone=false
def fo0:Fo inv0 [] :=⟨rfl,Ad,Ad⟩
def Fo.so(h:Fo s f)(a:Ok s n):SortN f:=by
 have:=a.su;rw[List.map_id]at this;show(f.map Node.id).Pairwise _;rw[h.ids];exact this
def normN(l x:Node):Node:=if l.gone then x else {x with gone:=false,scrap:=0}
def norm_self(h:l.gone=false->l.scrap=0):normN l l=l:=by
 unfold normN
 cases k:l.gone with
 |true=>rfl
 |false=>
  have m:=h k;let⟨a,b,c,d,e,f,g,i,j⟩:=l;simp_all
def norm_gone(k:l.gone=false)(h:l.scrap=0):normN l (goneN l c)=l:=by
 unfold normN goneN;rw[k];let⟨a,b,c,d,e,f,g,i,j⟩:=l;simp_all
def Kept(f f':List Node):Prop:=∀l∈f,∃x∈f',x.id=l.id/\normN l x=l
def grown_step(h:Fo s f)(L:Ok s n)(P:Grown f s s' e G)(d:G.map Node.id=s'.used):Fo s' G/\Kept f G:=by
 have k:∀ {x:Node},x∈f->x.id∈s.used:=λhx=>Gs;have u:=h.so L
 cases P with
 |same C=>
  refine⟨⟨d,h.sc,λB i x hx e=>?_⟩,λl o=>⟨l,o,rfl,norm_self (h.sc l o)⟩⟩;let⟨m,g,j⟩:=C B i;exact h.ng m g x hx (e.trans j.symm)
 |more xs hx C=>
  have a:∀y,y∈xs.foldl addN f↔y∈f\/y∈xs:=λy=>⟨put_mem (key:=Node.id),put_in (key:=Node.id)⟩;refine⟨⟨d,λx b r=>?_,λB i x b e=>?_⟩,λl o=>⟨l,(a l).2 (.inl o),rfl,norm_self (h.sc l o)⟩⟩
  ·rcases(a x).1 b with q|q
   ·exact h.sc x q r
   ·exact(hx x q).2.2
  ·rcases(a x).1 b with q|q
   ·rcases C B i with⟨m,g,j⟩|⟨y,g,j⟩
    ·exact h.ng m g x q (e.trans j.symm)
    ·exact absurd (k q) (by rw[e,<-j];exact(hx y g).1)
   ·exact(hx x q).2.1
 |gone xs hx N C=>
  let⟨M,D,t⟩:=N
  obtain⟨z,Q,I⟩:∃z∈f,z.id=e.id:=by
   have:=L.us M D;rw[<-h.ids,t]at this;simp_all
  let⟨y,v,E⟩:=aB8 u ⟨z,Q,I⟩;have A:=fC v;have F:=h.ng M D y A (by rw[E,t])
  obtain⟨c,O⟩:∃c,goneAt f (bs Node.id f e.id) e=f.set (bs Node.id f e.id) (goneN y c):=⟨_,by unfold goneAt;rw[v]⟩
  rw[O]at d⊢
  have a:∀x,x∈xs.foldl addN (f.set (bs Node.id f e.id) (goneN y c))↔(x=goneN y c\/(x∈f/\x.id≠y.id))\/x∈xs:=λx=>by
   rw[<-set_mem u v];exact⟨put_mem (key:=Node.id),put_in (key:=Node.id)⟩
  refine⟨⟨d,λx b r=>?_,λB i x b H=>?_⟩,λl o=>?_⟩
  ·rcases(a x).1 b with(rfl|⟨q,_⟩)|q
   ·cases r
   ·exact h.sc x q r
   ·exact(hx x q).2.2
  ·rcases(a x).1 b with(rfl|⟨q,R⟩)|q
   ·have K:y.id=sid B:=H
    rcases C B i with⟨g,_⟩|⟨w,g,j⟩
    ·exact absurd (by rw[<-K];exact E) g
    ·exact absurd (k A) (by rw[K,<-j];exact(hx w g).1)
   ·rcases C B i with⟨_,m,g,j⟩|⟨w,g,j⟩
    ·exact h.ng m g x q (H.trans j.symm)
    ·exact absurd (k q) (by rw[H,<-j];exact(hx w g).1)
   ·exact(hx x q).2.1
  ·by_cases J:l.id=y.id
   ·have:l=y:=bB9 u o A J
    subst this;exact⟨goneN l c,(a _).2 (.inl (.inl rfl)),rfl,norm_gone F (h.sc l o F)⟩
   ·exact⟨l,(a _).2 (.inl (.inr ⟨o,J⟩)),rfl,norm_self (h.sc l o)⟩
def okEv(s:aJ):List Event->List Event
 | [] => []
 |e::l=>if(appR s e).2=0 then e::okEv (appR s e).1 l else okEv s l
def finI(s:aJ):List Event->aJ
 | [] =>s
 |e::l=>finI (appR s e).1 l
def finF(s:aJ)(f:List Node):List Event->List Node
 | [] =>f
 |e::l=>finF (appR s e).1 (followN f (appR s e).1 e) l
def Acc56(s:aJ):List Event->Prop
 | [] =>True
 |e::l=>(appR s e).2=0/\Acc56 (appR s e).1 l
def acc_ok:∀ l  s,Acc56 s (okEv s l)
 | [],_=>trivial
 |e::l,s=>by
  unfold okEv;split
  ·rename_i h
   exact⟨h,acc_ok l _⟩
  ·exact acc_ok l s
def okEv_sub:∀ l  s,(okEv s l).Sublist l
 | [],_=>List.Sublist.refl _
 |e::l,s=>by
  unfold okEv;split
  ·exact(okEv_sub l _).cons_cons e
  ·exact(okEv_sub l s).cons e
def acc_take:∀ l  s  n,Acc56 s l->Acc56 s (l.take n)
 | [],_,n,_=>by rw[List.take_nil];trivial
 |e::l,s,0,_=>trivial
 |e::l,s,n+1,h=>⟨h.1,acc_take l _ n h.2⟩
def build_acc:∀(l:List Event) (s:aJ) (f:List Node) (i:Int),Acc56 s l->buildF s f i l=(finF s f l,i+l.length,0)
 | [],s,f,i,_=>by
   show(f,i,(0:Int))=(f,i+((0:Nat):Int),0);rw[Int.natCast_zero,UE]
 |e::l,s,f,i,h=>by
  rw[buildF,QJ h.1,build_acc l _ _ _ h.2];have:i+1+(l.length:Int)=i+((e::l).length:Nat):=by simp only[QX];omega
  rw[this];rfl
def acc_fo:∀ l  s  f  n,Ok s n->Fo s f->n+moreL l<=1000000->Acc56 s l->Fo (finI s l) (finF s f l)/\Ok (finI s l) (n+moreL l)
 | [],s,f,n,b,h,_,_=>⟨h,b⟩
 |e::l,s,f,n,b,h,m,d=>by
  have j:moreL (e::l)=more e+moreL l:=FN;let⟨k,i⟩:=aZ6 b d.1;have c:=eR5 b i
  let⟨a,_,g⟩:=follow_fit h.ids b c Aa k i;have:=acc_fo l _ _ _ c (grown_step h b g a).1 Aa d.2;rw[j,<-TI];exact this
def Sm(n:Int):Prop:= -10000<=n/\n<=10000
def vG(c:Sm a)(d:Sm b): -100000000<=a*b/\a*b<=100000000:=by
 have h:(a*b).natAbs<=10000*10000:=by
  rw[Int.natAbs_mul];unfold Sm at*;exact UD Aa Aa
 omega
theorem kN(c:Sm (a.1-b.1))(d:Sm (a.2-b.2)):vsub a b=(a.1-b.1,a.2-b.2):=by
 grind [Sm,vsub,w_in]
theorem iK(c:Sm a.1)(d:Sm a.2)(e:Sm b.1)(f:Sm b.2):bZ a b=a.1*b.2-a.2*b.1:=by
 have g:=vG c f;have h:=vG d e
 grind [bZ,w_in]
def bY4(c:Sm a.1)(d:Sm a.2)(e:Sm b.1)(f:Sm b.2):vdot a b=a.1*b.1+a.2*b.2:=by
 have g:=vG c e;have h:=vG d f
 grind [vdot,w_in]
theorem tC:cmpI n 0≠0↔n≠0:=by
 grind [cmpI]
theorem qN(a: -m<=v.1)(b:v.1<=m)(c: -m<=v.2)(d:v.2<=m)(e:0<=m/\m<=1000000):within v m:=by
 grind [within,w_in]
def rr(a b c d:Int):Rg:=[(a,b),(c,b),(c,d),(a,d)]
structure RB(a b c d:Int):Prop where
 x0:0<=a
 x1:a<c
 x2:c<=1900
 y0:0<=b
 y1:b<d
 y2:d<=1900
def uY{x y:Int}(a:0<x)(b:0<y):0<x*y:=Int.mul_pos a b
theorem bD6 a b c d:bF (rr a b c d)=[((a,b),(c,b)),((c,b),(c,d)),((c,d),(a,d)),((a,d),(a,b))] :=Ac
theorem eU3 a b c d:iU (rr a b c d) 0=(c,b):=Ac
theorem eV9 a b c d:iU (rr a b c d) 1=(c,d):=Ac
theorem eU5 a b c d:iU (rr a b c d) 2=(a,d):=Ac
theorem eV3 a b c d:iU (rr a b c d) 3=(a,b):=Ac
theorem eV2 a b c d:mY (rr a b c d) 0=(a,d):=Ac
theorem eV8 a b c d:mY (rr a b c d) 1=(a,b):=Ac
theorem eU8 a b c d:mY (rr a b c d) 2=(c,b):=Ac
theorem eV0 a b c d:mY (rr a b c d) 3=(c,d):=Ac
def eL5(h:RB a b c d):0<zY (rr a b c d):=by
 let⟨e,A,f,g,B,i⟩:=h;have s:∀n:Int,0<=n->n<=1900->Sm n:=λn o q=>⟨Aa,Aa⟩;have j:bZ (a,b) (c,b)=a*b-b*c:=iK (s a e Aa) (s b g Aa) (s c Aa f) (s b g Aa)
 have k:bZ (c,b) (c,d)=c*d-b*c:=iK (s c Aa f) (s b g Aa) (s c Aa f) (s d Aa i);have l:bZ (c,d) (a,d)=c*d-d*a:=iK (s c Aa f) (s d Aa i) (s a e Aa) (s d Aa i)
 have m:bZ (a,d) (a,b)=a*b-d*a:=iK (s a e Aa) (s d Aa i) (s a e Aa) (s b g Aa);have u:=vG (s a e Aa) (s b g Aa)
 have v:=vG (s b g Aa) (s c Aa f);have w:=vG (s c Aa f) (s d Aa i)
 have z:=vG (s d Aa i) (s a e Aa);have r:zY (rr a b c d)=W (W (W (W (0+bZ (a,b) (c,b))+bZ (c,b) (c,d))+bZ (c,d) (a,d))+bZ (a,d) (a,b)):=Ac
 have t:=uY (x:=c-a) (y:=d-b) Aa Aa;grind [Int.sub_mul,Int.mul_sub,Int.mul_comm,w_in]
def yN(e:0<=u.1/\u.1<=1900/\0<=u.2/\u.2<=1900)(hv:0<=v.1/\v.1<=1900/\0<=v.2/\v.2<=1900)(f:0<=w.1/\w.1<=1900/\0<=w.2/\w.2<=1900):
 kR u v w=cmpI ((v.1-u.1)*(w.2-u.2)- (v.2-u.2)*(w.1-u.1)) 0:=by
 unfold kR;have s:∀m n:Int,0<=m->m<=1900->0<=n->n<=1900->Sm (m-n):=λm n a b c d=>⟨Aa,Aa⟩;grind [kN,iK]
def dX7(h:RB a b c d):∀i,i< (rr a b c d).length->kR (mY (rr a b c d) i) ((rr a b c d).getD i z0) (iU (rr a b c d) i)≠0:=by
 let⟨g,j,k,l,m,n⟩:=h;intro i hi;have f:i<4:=hi;have e:i=0\/i=1\/i=2\/i=3:=Aa
 rcases e with rfl|rfl|rfl|rfl
 ·rw[eV2,eU3]
  show kR (a,d) (a,b) (c,b)≠0;exact Ov
 ·rw[eV8,eV9]
  show kR (a,b) (c,b) (c,d)≠0;exact Pj
 ·rw[eU8,eU5]
  show kR (c,b) (c,d) (a,d)≠0;exact Ov
 ·rw[eV0,eV3]
  show kR (c,d) (a,d) (a,b)≠0;exact Ov
def On19(v:Vc):Prop:=0<=v.1/\v.1<=1900/\0<=v.2/\v.2<=1900
theorem eE4(a:On19 s.1)(b:On19 s.2):bI s:=by
 unfold On19 at*;exact⟨qN Aa Aa Aa Aa Aa,qN Aa Aa Aa Aa Aa⟩
theorem yC(a:On19 s.1)(b:On19 s.2)(c:On19 t.1)(d:On19 t.2):jC s t=(s.2.1-s.1.1)*(t.2.2-t.1.2)- (s.2.2-s.1.2)*(t.2.1-t.1.1):=by
 unfold On19 at*;have e:∀m n:Int,0<=m->m<=1900->0<=n->n<=1900->Sm (m-n):=λm n a b c d=>⟨Aa,Aa⟩;grind [kN,iK,jC]
def bW0(a:On19 s.1)(b:On19 s.2)(c:On19 t.1)(d:On19 t.2):lX s t=(t.1.1-s.1.1)*(t.2.2-t.1.2)- (t.1.2-s.1.2)*(t.2.1-t.1.1):=by
 unfold On19 at*;have e:∀m n:Int,0<=m->m<=1900->0<=n->n<=1900->Sm (m-n):=λm n a b c d=>⟨Aa,Aa⟩;grind [kN,iK,lX]
def bT9(a:On19 s.1)(b:On19 s.2)(c:On19 t.1)(d:On19 t.2):lS s t=(t.1.1-s.1.1)*(s.2.2-s.1.2)- (t.1.2-s.1.2)*(s.2.1-s.1.1):=by
 unfold On19 at*;have e:∀m n:Int,0<=m->m<=1900->0<=n->n<=1900->Sm (m-n):=λm n a b c d=>⟨Aa,Aa⟩;grind [kN,iK,lS]
def aP6(h:jC s t=0):dG s t≠2:=by
 unfold dG kQ;split
 ·show(0:Int)≠2;decide
 ·rw[Q9 (λq=>q h)]
  split
  ·show(1:Int)≠2;decide
  ·split
   ·show(1:Int)≠2;decide
   ·split
    ·show(0:Int)≠2;decide
    ·unfold yD
     split
     ·show(1:Int)≠2;decide
     ·split
      ·show(3:Int)≠2;decide
      ·show(0:Int)≠2;decide
def cL8(h:jC s t=0)(a:kR s.1 s.2 t.1≠0)(b:s.1≠s.2)(c:t.1≠t.2):dG s t=0:=by
 unfold dG kQ;split
 ·rfl
 ·rw[Q9 (λq=>q h),Q9 (λq=>b q.1),Q9 (λq=>c q.1),QJ (.inr (.inr a))]
  rfl
def cN5(h:jC s t≠0)(a:dG s t=2):(0<jC s t/\0<lX s t/\lX s t<jC s t/\0<lS s t/\lS s t<jC s t)\/
 (jC s t<0/\0<W (0-lX s t)/\W (0-lX s t)<W (0-jC s t)/\0<W (0-lS s t)/\W (0-lS s t)<W (0-jC s t)):=by
 unfold dG kQ at a;split at a
 ·cases a
 ·unfold lines at a
  simp only at a;split at a
  ·cases a
  ·rename_i d
   have b:=a;unfold aH6 at b;split at b
   ·cases b
   ·rename_i c
    unfold turned at d c;grind
def bL1(h:RB a b c d):On19 (a,b)/\On19 (c,b)/\On19 (c,d)/\On19 (a,d):=by
 let⟨e,f,g,i,j,k⟩:=h;grind [On19]
theorem eT7(h:RB a b c d):dG ((a,b),(c,b)) ((c,d),(a,d))=0:=by
 let⟨f,g,i,j⟩:=bL1 h;let⟨k,l,m,n,o,q⟩:=h;refine cL8 ?_ ?_ ?_ ?_
 ·grind [yC]
 ·show kR (a,b) (c,b) (c,d)≠0
  exact Pj
 ·intro e
  have:a=c:=Ru Prod.fst e;omega
 ·intro e
  have:c=a:=Ru Prod.fst e;omega
theorem eS9(h:RB a b c d):dG ((c,b),(c,d)) ((a,d),(a,b))=0:=by
 let⟨f,g,i,j⟩:=bL1 h;let⟨k,l,m,n,o,q⟩:=h;refine cL8 ?_ ?_ ?_ ?_
 ·grind [yC]
 ·show kR (c,b) (c,d) (a,d)≠0
  exact Ov
 ·intro e
  have:b=d:=Ru Prod.snd e;omega
 ·intro e
  have:d=b:=Ru Prod.snd e;omega
def dB7(h:RB a b c d):dM (rr a b c d):=by
 refine⟨(by decide:3<=4),(by decide:4<=40),?_,eL5 h,dX7 h,?_⟩
 ·let⟨l,m,n,o,p,q⟩:=h
  intro v hv;have j:v=(a,b)\/v=(c,b)\/v=(c,d)\/v=(a,d):=by simpa [rr]using hv
  grind [qN]
 ·intro i k e f
  have g:k<4:=f;rw[bD6];show k≠i+1->(i≠0\/k≠4-1)->_;grind [eT7,eS9]
def rS(a b c d:Int):Sh:=⟨rr a b c d,[]⟩
def bC0(h:RB a b c d):bG (rS a b c d):=by
 refine⟨RI 6,λr e=>?_,(by decide:4<=80),trivial⟩
 rw[QT.1 (show r∈[rr a b c d]from e)];exact dB7 h
theorem aG2:kF x m↔x.2<m.2\/(x.2=m.2/\x.1<m.1):=by
 grind [kF,vcmp,orI,cmpI]
def eG8(h:RB a b c d):wL (rr a b c d)=rr a b c d:=by
 let⟨g,i,j,k,l,m⟩:=h
 have e:wO (rr a b c d)=(a,b):=by
  show sQ (a,b) [(c,b),(c,d),(a,d)] =(a,b);rw[wF,Q9 Ho,wF,Q9 Ho,wF,Q9 Ho];rfl
 unfold wL;rw[e]
 have f:sN (a,b) (rr a b c d) 0=some 0:=by
  show sN (a,b) ((a,b)::_) 0=some 0;rw[sN,QJ rfl]
 simp_all
def cP4(h:RB a b c d):qO (rS a b c d)=rS a b c d:=by
 rw[aN9 (bC0 h)]
 have e:gQ (rS a b c d).outer=rr a b c d:=by
  show gQ (rr a b c d)=_;unfold gQ;rw[QJ (dB7 h),eG8 h]
 rw[e];rfl
def bU1(h:RB a b c d):jV (rS a b c d):=⟨bC0 h,(cP4 h).symm⟩
def eD8(h:RB a b c d):(boxS (rS a b c d)).1=((a,b),(c,d)):=by
 rw[eG7 (bC0 h)];show(boxR (rr a b c d)).1=_;rw[dX3 (dB7 h)];let⟨e,f,g,i,j,k⟩:=h;show gU (gU (gU (gU ((a,b),(a,b)) (a,b)) (c,b)) (c,d)) (a,d)=_;grind [gU]
def cL4(h:RB (x.1.1-v.1) (x.1.2-v.2) (x.2.1-v.1) (x.2.2-v.2)):jT x v=rS (x.1.1-v.1) (x.1.2-v.2) (x.2.1-v.1) (x.2.2-v.2):=by
 have a:=h;let⟨b,c,d,f,g,i⟩:=h;show qO (sV (vsub x.1 v) (vsub x.2 v))=_;rw[kN ⟨Aa,Aa⟩ ⟨Aa,Aa⟩,kN ⟨Aa,Aa⟩ ⟨Aa,Aa⟩]
 have e:sV (x.1.1-v.1,x.1.2-v.2) (x.2.1-v.1,x.2.2-v.2)=rS (x.1.1-v.1) (x.1.2-v.2) (x.2.1-v.1) (x.2.2-v.2):=by
  unfold sV;rw[Q9]
  ·rfl
  ·grind [qN]
 rw[e];exact cP4 a
def gcd_one n:divisor n 1=1:=by
 have h:gcdI n 1=1:=by
  simp_all [Int.tmod_one,gcdI]
 unfold divisor;rw[h];decide
def eE5(h:On19 p):wJ (p.1,p.2,1):=by
 unfold On19 at h;refine⟨⟨(by decide:(1:Int)<=1),(by decide:(1:Int)<=134217728),?_⟩,gcd_one _⟩
 show within (p.1,p.2) (W (4000*1));rw[show W (4000*1)=4000 from Ai];grind [qN]
theorem uZ(a:On19 p)(b:On19 v):toP (p.1,p.2,1) v=(p.1-v.1,p.2-v.2):=by
 unfold On19 at*;unfold toP;simp[Int.mul_one];grind [w_in]
def aP9(a:On19 p)(b:On19 e.1)(c:On19 e.2):bV4 (p.1,p.2,1) e=(e.2.1-e.1.1)*(p.2-e.1.2)- (e.2.2-e.1.2)*(p.1-e.1.1):=by
 unfold bV4;rw[uZ a b];unfold On19 at*;rw[kN ⟨Aa,Aa⟩ ⟨Aa,Aa⟩,iK ⟨Aj,Aj⟩ ⟨Aj,Aj⟩ ⟨Aj,Aj⟩ ⟨Aj,Aj⟩]
def pG{k n:Int}(a:0<k):(k*n=0↔n=0)/\(0<k*n↔0<n)/\(k*n<0↔n<0):=by
 refine⟨⟨λh=>?_,λh=>by rw[h,Int.mul_zero]⟩,⟨λh=>?_,λh=>Int.mul_pos a h⟩,⟨λh=>?_,λh=>Int.mul_neg_of_pos_of_neg a h⟩⟩
 ·grind [Int.mul_eq_zero]
 ·exact Int.pos_of_mul_pos_right h a|>λx=>x
 ·exact Int.neg_of_mul_neg_right h Aa|>λx=>x
def on_h(c:On19 p)(d:On19 (a,y))(e:On19 (b,y))(f:a≠b):(onE (p.1,p.2,1) ((a,y),(b,y))↔p.2=y/\min a b<=p.1/\p.1<=max a b)/\¬rW (p.1,p.2,1) ((a,y),(b,y)):=by
 constructor
 ·unfold onE
  rw[aP9 c d e,uZ c d,uZ c e];grind
 ·grind [uZ,rW]
def on_v(c:On19 p)(d:On19 (x,a))(e:On19 (x,b))(f:a≠b):(onE (p.1,p.2,1) ((x,a),(x,b))↔p.1=x/\min a b<=p.2/\p.2<=max a b):=by
 unfold onE;rw[aP9 c d e,uZ c d,uZ c e];grind
def eP8(c:On19 p)(d:On19 (x,a))(e:On19 (x,b))(f:a<b):rW (p.1,p.2,1) ((x,a),(x,b))↔a<=p.2/\p.2<b/\p.1<x:=by
 unfold rW;rw[aP9 c d e,uZ c d,uZ c e];simp only;rw[show x-x=0 from Aa,Int.zero_mul];let⟨g,i,j⟩:=pG (k:=b-a) (n:=p.1-x) Aa;omega
theorem dN2(c:On19 p)(d:On19 (x,a))(e:On19 (x,b))(f:b<a):rW (p.1,p.2,1) ((x,a),(x,b))↔b<=p.2/\p.2<a/\p.1<=x:=by
 unfold rW;rw[aP9 c d e,uZ c d,uZ c e];simp only;rw[show x-x=0 from Aa,Int.zero_mul];let⟨g,i,j⟩:=pG (k:=a-b) (n:=p.1-x) Aa;grind
def wR(a b c d:Int)(p:Vc):Prop:=a<p.1/\p.1<c/\b<p.2/\p.2<d
def wP(a b c d:Int)(p:Vc):Prop:=a<=p.1/\p.1<=c/\b<=p.2/\p.2<=d
def eG1(h:RB a b c d)(e:On19 p):
 (wR a b c d p/\iF (rr a b c d) (p.1,p.2,1)=2)\/(¬wR a b c d p/\wP a b c d p/\iF (rr a b c d) (p.1,p.2,1)=1)\/(¬wP a b c d p/\iF (rr a b c d) (p.1,p.2,1)=0):=by
 rw[aD9 (dB7 h) (eE5 e),bD6];let⟨i,f,g,j⟩:=bL1 h;let⟨s,t,u,v,w,x⟩:=h;let⟨k,l⟩:=on_h e i f Aa;have m:=on_v e f g Aa;have n:=eP8 e f g Aa
 let⟨o,q⟩:=on_h e g j Aa;have r:=on_v e j i Aa;grind [dN2,oP,jD,rE,qB,wR,wP]
def aP7(h:RB a b c d)(g:On19 p):
 (wR a b c d p/\lJ (rS a b c d) p=2)\/(¬wR a b c d p/\wP a b c d p/\lJ (rS a b c d) p=1)\/(¬wP a b c d p/\lJ (rS a b c d) p=0):=by
 have e:lJ (rS a b c d) p=iF (rr a b c d) (p.1,p.2,1):=by
  have i:within p 4000:=by
   grind [qN,On19]
  rw[cO2 i];by_cases f:iF (rr a b c d) (p.1,p.2,1)=2
  ·rw[bP9 (bC0 h) f,f]
   rfl
  ·rw[bQ2 (bC0 h) f]
   rfl
 rw[e];exact eG1 h g
def eF5(a:On19 s.1)(b:On19 s.2)(c:On19 p):eX s p↔min s.1.1 s.2.1<=p.1/\p.1<=max s.1.1 s.2.1/\min s.1.2 s.2.2<=p.2/\p.2<=max s.1.2 s.2.2/\(s.2.1-s.1.1)*(p.2-s.1.2)- (s.2.2-s.1.2)*(p.1-s.1.1)=0:=by
 unfold eX;rw[yN a b c]
 have d:(aC7 [s.1,s.2]).1=((min s.1.1 s.2.1,min s.1.2 s.2.2),(max s.1.1 s.2.1,max s.1.2 s.2.2)):=by
  show gU (gU (s.1,s.1) s.1) s.2=_;grind [gU]
 grind [tC,eE4,bJ8]
def dF0(c:On19 (a,y))(d:On19 (b,y))(e:On19 p):eX ((a,y),(b,y)) p↔p.2=y/\min a b<=p.1/\p.1<=max a b:=by
 rw[eF5 c d e];grind
def dH4(c:On19 (x,a))(d:On19 (x,b))(e:On19 p):eX ((x,a),(x,b)) p↔p.1=x/\min a b<=p.2/\p.2<=max a b:=by
 rw[eF5 c d e];grind
end Go.Proofs.Led
