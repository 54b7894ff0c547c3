/-
  The reference's genealogy: find, own, child.
-/
import Derived.Test.YtdjgbagnajikeaaGreatDoorB17
set_option linter.unusedVariables false
set_option linter.unusedSimpArgs false
set_option maxRecDepth 100000
set_option maxHeartbeats 8000000
noncomputable section
namespace Go.Proofs.Led
open Go Go.Proofs Go.Ab
def firstN(f:List Node)(n:Int):Int:=match f.findIdx? (fun x=>decide (x.id=n))with|some i=>i|none=> -1
theorem firstN_none{l:List Node}{n:Int}(h:∀x∈l,x.id≠n):firstN l n= -1:=by
 unfold firstN;rw[List.findIdx?_eq_none_iff.2 (fun x hx=>by simpa using h x hx)]
theorem firstN_some{D R:List Node}{x:Node}{n:Int}(h:∀x∈D,x.id≠n)(hx:x.id=n):firstN (D++x::R) n=D.length:=by
 unfold firstN;rw[List.findIdx?_append,List.findIdx?_eq_none_iff.2 (fun x hx=>by simpa using h x hx),List.findIdx?_cons,if_pos F6]
 simp
theorem rfind_spec(f:List Node)(n:Int)(hl:f.length<=1000000):Sp 60 [.sl (f.map nodeV),I n] (I (firstN f n)):=by
 refine zsp Tryz.func60 ?_;have hml:(f.map nodeV).length=f.length:=Ae
 repeat' ((conv=>whnf);first|(exfalso;omega)|refine zS ?_|refine zd (fun hd=>?_) (fun hd=>?_)|refine zl (fun hlt=>?_) (fun hlt=>?_)|refine zk (fun hle=>?_) (fun hle=>?_)|refine ze (fun heq=>?_) (fun heq=>?_)|refine zm (fun x hx=>?_)|refine zb (fun hbb=>?_) (fun hbb=>?_))
 refine aU (A:=List Node) (B:=List Node) (fun D R=>mkSt [(0, .sl (f.map nodeV)),(1,I n),(5,I D.length)] [] []) (fun D R=>f=D++R/\∀x∈D,x.id≠n) (fun D R=>R.length) [] f ?_ ⟨rfl,Ae⟩ (fun D R hp=>?_)
 ·exact zj
 obtain⟨hp,hD⟩:=hp
 cases R with
 |nil=>
  have hlen:f.length=D.length:=Af;have e:firstN f n= -1:=firstN_none (by rw[hp,List.append_nil];exact hD)
  rw[e]
  repeat' ((conv=>whnf);first|(exfalso;omega)|refine zS ?_|refine zd (fun hd=>?_) (fun hd=>?_)|refine zl (fun hlt=>?_) (fun hlt=>?_)|refine zk (fun hle=>?_) (fun hle=>?_)|refine ze (fun heq=>?_) (fun heq=>?_)|refine zm (fun x hx=>?_)|refine zb (fun hbb=>?_) (fun hbb=>?_))
  all_goals exact zE
 |cons x R=>
  have hlen:=aO hp;have hS:x.id=n->firstN f n=D.length:=fun h=>by rw[hp];exact firstN_some hD h
  have hN:x.id≠n->∀y∈D++[x],y.id≠n:=fun h y hy=>by
   rcases List.mem_append.1 hy with hy|hy
   ·exact hD y hy
   ·rw[List.mem_singleton.1 hy];exact h
  generalize firstN f n=F at*
  repeat' ((conv=>whnf);first|(exfalso;omega)|refine zS ?_|refine zd (fun hd=>?_) (fun hd=>?_)|refine zl (fun hlt=>?_) (fun hlt=>?_)|refine zk (fun hle=>?_) (fun hle=>?_)|refine ze (fun heq=>?_) (fun heq=>?_)|refine zm (fun x hx=>?_)|refine zb (fun hbb=>?_) (fun hbb=>?_))
  all_goals conv=>whnf
  ·exact aG (hS heq).symm
  ·refine⟨(D++[x],R),?_,⟨Af,hN heq⟩,Ae⟩
   exact Ll
def ownR(x:Node):Prop:=1<=x.kind/\x.kind<=3/\1<=x.size/\0<=x.scrap/\x.scrap<=x.size/\0<=x.parent/\
 (x.kind=3->iM x.part/\x.parent≠0/\x.gone=false/\x.scrap=0)/\(x.kind≠3->x.part=aI/\(x.gone=true\/x.scrap=0))
theorem rownN_spec(x:Node):Sp 62 [nodeV x] (DB (ownR x)):=by
 refine zsp Tryz.func62 ?_;have h1:=bD8 x.part;have hr:ownR x↔1<=x.kind/\x.kind<=3/\1<=x.size/\0<=x.scrap/\x.scrap<=x.size/\0<=x.parent/\(x.kind=3->iM x.part/\x.parent≠0/\x.gone=false/\x.scrap=0)/\(x.kind≠3->x.part=aI/\(x.gone=true\/x.scrap=0)):=Iff.rfl
 generalize ownR x=P at*;generalize iM x.part=q at*;obtain⟨i,k,p,g,h,t,z,o,c⟩:=x;simp only at hr;cases o;all_goals simp only[reduceCtorEq,false_implies,true_implies,and_false,and_true,false_or,true_or,implies_true,true_and]at hr
 all_goals repeat' ((conv=>whnf);first|(exfalso;contradiction)|(exfalso;omega)|refine jI (fun heq=>?_) (fun heq=>?_)|refine zS ?_|refine zm (fun x hx=>?_)|refine zT ?_ ?_<;>intro _|fail)
 all_goals conv=>whnf
 all_goals first
  |(refine aA (aC fun hh=>?_);replace hr:=hr.1 hh;simp only at*;omega)
  |(refine aA (aC fun hh=>?_);replace hr:=hr.1 hh;simp only at*;exact absurd (hr.2.2.2.2.2.2.1 Aa).1 Ad)
  |(refine aA (aC fun hh=>?_);replace hr:=hr.1 hh;simp only at*;exact absurd Ad (hr.2.2.2.2.2.2.1 Aa).2.1)
  |(refine aA (aC fun hh=>?_);replace hr:=hr.1 hh;simp only at*;exact(hr.2.2.2.2.2.2.1 Aa).2.2.1)
  |(refine aA (sK ?_);simp only at*;exact⟨fun q=>hr.2 ⟨Aa,Aa,Aa,Aa,Aa,Aa,fun _=>⟨Ad,Aa,q⟩,fun q=>absurd Ad q⟩,fun q=>((hr.1 q).2.2.2.2.2.2.1 Ad).2.2⟩)
  |(refine aA (sK ?_);simp only at*;exact⟨fun q=>hr.2 ⟨Aa,Aa,Aa,Aa,Aa,Aa,fun q=>absurd q Ad,fun _=>⟨Ad,q⟩⟩,fun q=>((hr.1 q).2.2.2.2.2.2.2 Ad).2⟩)
  |(refine aA (aC fun hh=>?_);replace hr:=hr.1 hh;simp only at*;exact absurd (hr.2.2.2.2.2.2.2 Ad).1 Ad)
  |(refine aA (aC fun hh=>?_);replace hr:=hr.1 hh;simp only at*;exact absurd (hr.2.2.2.2.2.2.2 Ad) Ad)
  |(refine aA (fE (hr.2 ?_));simp only at*;exact⟨Aa,Aa,Aa,Aa,Aa,Aa,fun q=>absurd q Ad,fun _=>Ad⟩)
def childP(x p:Node):Prop:=p.gone=true/\p.kind≠3/\(x.kind=3\/x.kind=p.kind)/\x.grade=p.grade/\x.heat=p.heat
theorem rchild_spec(x p:Node):Sp 63 [nodeV x,nodeV p] (DB (childP x p)):=by
 refine zsp Tryz.func63 ?_;have hr:childP x p↔p.gone=true/\p.kind≠3/\(x.kind=3\/x.kind=p.kind)/\x.grade=p.grade/\x.heat=p.heat:=Iff.rfl;generalize childP x p=P at*;obtain⟨i,k,q,g,h,t,z,o,c⟩:=x;obtain⟨i',k',q',g',h',t',z',o',c'⟩:=p;simp only at hr;cases o';all_goals simp only[reduceCtorEq,false_and,true_and,iff_false]at hr
 all_goals repeat' ((conv=>whnf);first|(exfalso;contradiction)|(exfalso;omega)|refine jI (fun heq=>?_) (fun heq=>?_)|refine zS ?_|refine zm (fun x hx=>?_)|refine zT ?_ ?_<;>intro _|fail)
 all_goals conv=>whnf
 all_goals first
  |(refine aA (aC fun hh=>?_);exact hr hh)
  |(refine aA (aC fun hh=>?_);replace hr:=hr.1 hh;simp only at*;omega)
  |(refine aA (aC fun hh=>?_);replace hr:=hr.1 hh;simp only at*;exact absurd hr.2.2.1 Ad)
  |(refine aA (qV ?_);simp only at*;exact⟨fun e=>hr.2 ⟨Aa,Aa,Ad,e⟩,fun e=>(hr.1 e).2.2.2⟩)
theorem le_refl{T:Tab}{σ:St}:Le T σ σ:=by
 unfold Le;exact fun Φ a w G inv=>⟨G,inv⟩
theorem loop_0{T:Tab}{σ:St}{x:aA2}{Q:Exit->St->Prop}(h:x σ fun e σ'=>match e with
 | .normal=>∃p':Unit,Le T σ' σ/\True/\0<0
 |e=>Q e σ'):bI0 T x σ Q:=lD (A:=Unit) (fun _=>σ) (fun _=>True) (fun _=>0) () le_refl trivial (fun _ _=>h)
theorem cutsN_snoc(f:List Node)(s:aJ)(D:List Made)(c:Made):cutsN f s (D++[c])=addN (cutsN f s D) (pieceN (bF0 s c.id) (bF0 s c.id).parent):=by unfold cutsN;simp
theorem restsN_snoc(f:List Node)(s:aJ)(n:Int)(D:List Rest)(r:Rest):restsN f s n (D++[r])=addN (restsN f s n D) (nodeOf (bF5 s r.id) n):=by unfold restsN;simp
theorem map_set2(f:List Node)(k:Nat)(x y:Node):((f.map nodeV).set ((k:Int)).toNat (nodeV y)).set ((k:Int)).toNat (nodeV x)=(f.set k x).map nodeV:=by
 rw[Int.toNat_natCast,List.set_set,List.map_set]
theorem map_set3(f:List Node)(k:Nat)(x y z:Node):(((f.map nodeV).set ((k:Int)).toNat (nodeV z)).set ((k:Int)).toNat (nodeV y)).set ((k:Int)).toNat (nodeV x)=(f.set k x).map nodeV:=by
 rw[Int.toNat_natCast,List.set_set,List.set_set,List.map_set]
def folA(s:aJ)(e:Event)(F:List Node)(D:List Made):St:=mkSt [(0, .arr 0 D.length),(4, .box 4 0),(5, .box 5 0),(68, .sl (e.cuts.map dK)),(69,I e.cuts.length),(70,I D.length)] [(4,invC s),(5,iJ e)] [(0,⟨D.length, .own,42,F.map nodeV⟩)]
def folB(s:aJ)(e:Event)(F:List Node)(g:Nat)(D:List Rest):St:=mkSt [(0, .arr 0 (g+D.length)),(4, .box 4 0),(5, .box 5 0),(98, .sl (e.rests.map bY)),(99,I e.rests.length),(100,I D.length)] [(4,invC s),(5,iJ e)] [(0,⟨g+D.length, .own,42,F.map nodeV⟩)]
structure FolOk(f:List Node)(s:aJ)(e:Event):Prop where
 so:SortN f
 ln:f.length<=1000000
 ev:iY e
 lp:s.pieces.length<=1000000
 ls:s.stocks.length<=1000000
 sz:∀n,eY (bF5 s n)
 sh:e.kind=1->lK e.sheet
 no:e.kind≠5->e.cuts=[]/\e.rests=[]
theorem fol1_vc(f:List Node)(s:aJ)(e:Event)(h:FolOk f s e)(hk:e.kind=1):fnVC T Tryz.prog Tryz.f40 [.own 42 (f.map nodeV),invV s,aS e] (.own 42 ((followN f s e).map nodeV)):=by
 have h1:=stockNode_spec ⟨false,e.sheet,bar0,aI⟩ 0 ⟨h.sh hk,Nat.zero_le _⟩;have h2:=addG_spec f (nodeOf ⟨false,e.sheet,bar0,aI⟩ 0) h.ln h.so
 unfold followN;rw[if_pos hk];exact KP
theorem fol2_vc(f:List Node)(s:aJ)(e:Event)(h:FolOk f s e)(hk:e.kind=2):fnVC T Tryz.prog Tryz.f40 [.own 42 (f.map nodeV),invV s,aS e] (.own 42 ((followN f s e).map nodeV)):=by
 have h1:=stockNode_spec ⟨true,dN,e.bar,aI⟩ 0 ⟨xZ,h.ev.br⟩;have h2:=addG_spec f (nodeOf ⟨true,dN,e.bar,aI⟩ 0) h.ln h.so
 unfold followN;rw[if_neg Aa,if_pos hk];exact KP
theorem fol8_vc(f:List Node)(s:aJ)(e:Event)(x:Node)(h:FolOk f s e)(hk:e.kind=8)(hx:f[bs Node.id f e.id]? =some x):fnVC T Tryz.prog Tryz.f40 [.own 42 (f.map nodeV),invV s,aS e] (.own 42 ((followN f s e).map nodeV)):=by
 obtain⟨c1,c2⟩:=h.no Aa;have h1:=findN_spec f e.id h.ln h.so;have hkl:=(List.getElem?_eq_some_iff.1 hx).1
 have hll:(f.map nodeV).length=f.length:=Ae;have hln:=h.ln
 have e1:followN f s e=f.set (bs Node.id f e.id) (goneN x x.size):=by
  unfold followN growN goneAt;rw[if_neg Aa,if_neg Aa,if_pos (.inl hk),hx,c1,c2];simp only[if_pos hk];rfl
 have hm1:(e.cuts.map dK).length=0:=by rw[c1];rfl
 have hm2:(e.rests.map bY).length=0:=by rw[c2];rfl
 rw[e1,<-map_set3 f _ (goneN x x.size) {x with gone:=true,scrap:=e.scrap} {x with gone:=true}];clear e1 h c1 c2;generalize bs Node.id f e.id=k at*;generalize (∃m∈f,m.id=e.id)=P at*
 repeat' ((conv=>whnf);first|(exfalso;omega)|refine cC0 [(0,77777),(5,5),(45,77777),(47,77777),(49,5),(51,77777),(52,77777),(53,77777),(54,77777)] Aq AA ?_|(refine aS5 (h1) true ?_ rfl ?_;focus ((repeat' (first|exact trivial|refine And.intro ?_ ?_|with_reducible rfl|exact(fun h=>Ag)|exact rfl));done))|refine dS rfl rfl Eo ?_|refine dS rfl rfl BB ?_|refine dB8 rfl rfl ?_|refine cV1 rfl EX ?_|refine loop_0 ?_|refine zS ?_|refine zm (fun x hx=>?_)|refine zT ?_ ?_<;>intro _|fail)
 all_goals exact zE
theorem fol5_vc(f F0:List Node)(s:aJ)(e:Event)(x:Node)(h:FolOk f s e)(hk:e.kind=5)(hx:f[bs Node.id f e.id]? =some x)(hF:F0=f.set (bs Node.id f e.id) (goneN x e.scrap))
 (hC:∀D R,e.cuts=D++R->SortN (cutsN F0 s D)/\(cutsN F0 s D).length<=1000000)(hR:∀D R,e.rests=D++R->SortN (restsN (cutsN F0 s e.cuts) s e.id D)/\(restsN (cutsN F0 s e.cuts) s e.id D).length<=1000000):
 fnVC T Tryz.prog Tryz.f40 [.own 42 (f.map nodeV),invV s,aS e] (.own 42 ((followN f s e).map nodeV)):=by
 have h1:=findN_spec f e.id h.ln h.so;have hkl:=(List.getElem?_eq_some_iff.1 hx).1
 have hll:(f.map nodeV).length=f.length:=Ae;have hln:=h.ln
 have hct:=h.ev.ct;have hrs:=h.ev.rs
 have hm1:(e.cuts.map dK).length=e.cuts.length:=Ae;have hm2:(e.rests.map bY).length=e.rests.length:=Ae
 have e1:followN f s e=restsN (cutsN F0 s e.cuts) s e.id e.rests:=by
  unfold followN growN goneAt;rw[if_neg Aa,if_neg Aa,if_pos (.inr hk),hx,hF];simp only[if_neg (show¬e.kind=8 from Aa)]
 have e2:F0.map nodeV=((f.map nodeV).set ((bs Node.id f e.id:Nat):Int).toNat (nodeV {x with gone:=true})).set ((bs Node.id f e.id:Nat):Int).toNat (nodeV (goneN x e.scrap)):=by rw[hF,map_set2]
 rw[e1];have hp:=h.lp;have hs:=h.ls
 have hz:=h.sz;clear e1 h hF;generalize bs Node.id f e.id=k at*;generalize (∃m∈f,m.id=e.id)=P at*
 repeat' ((conv=>whnf);first|(exfalso;omega)|refine cC0 [(0,77777),(5,5),(45,77777),(47,77777),(49,5),(51,77777),(52,77777),(53,77777),(54,77777)] Aq AA ?_|(refine aS5 (h1) true ?_ rfl ?_;focus ((repeat' (first|exact trivial|refine And.intro ?_ ?_|with_reducible rfl|exact(fun h=>Ag)|exact rfl));done))|refine dS rfl rfl Eo ?_|refine dS rfl rfl BB ?_|refine dB8 rfl rfl ?_|refine cV1 rfl EX ?_|refine zS ?_|refine zm (fun x hx=>?_)|refine zT ?_ ?_<;>intro _|fail)
 refine aU (A:=List Made) (B:=List Made) (fun D R=>folA s e (cutsN F0 s D) D) (fun D R=>e.cuts=D++R) (fun D R=>R.length) [] e.cuts ?_ rfl (fun D R hp2=>?_)
 ·show Le T _ (mkSt [(0, .arr 0 0),(4, .box 4 0),(5, .box 5 0),(68, .sl (e.cuts.map dK)),(69,I e.cuts.length),(70,I 0)] [(4,invC s),(5,iJ e)] [(0,⟨0, .own,42,F0.map nodeV⟩)])
  rw[e2,<-hm1];exact zj
 cases R with
 |cons c R=>
  have hlen:=aO hp2;have hlD:((D++[c]).length:Int)=(D.length:Int)+1:=Ae
  obtain⟨q1,q2⟩:=hC D (c::R) hp2;have h2:=bG3 s c.id hp;have h3:=addG_spec (cutsN F0 s D) (pieceN (bF0 s c.id) (bF0 s c.id).parent) q2 q1
  have hsn:=cutsN_snoc F0 s D c;generalize bF0 s c.id=pp at*;generalize (∃m∈s.pieces,m.id=c.id)=Q at*;generalize addN (cutsN F0 s D) (pieceN pp pp.parent)=F2 at*;generalize cutsN F0 s D=F1 at*
  repeat' ((conv=>whnf);first|(exfalso;omega)|refine zS ?_|refine zm (fun x hx=>?_)|refine zT ?_ ?_<;>intro _|fail)
  all_goals conv=>whnf
  refine⟨(D++[c],R),?_,Ee,Ae⟩;show Le T _ (folA s e (cutsN F0 s (D++[c])) (D++[c]));rw[hsn];unfold folA;exact Ll
 |nil=>
  have hlen:e.cuts.length=D.length:=Ee;have eD:e.cuts=D:=Ee
  clear hC;rw[<-eD]at*;clear hp2 eD;generalize cutsN F0 s e.cuts=F1 at*
  repeat' ((conv=>whnf);first|(exfalso;omega)|refine zS ?_|refine zm (fun x hx=>?_)|refine zT ?_ ?_<;>intro _|fail)
  refine aU (A:=List Rest) (B:=List Rest) (fun D R=>folB s e (restsN F1 s e.id D) e.cuts.length D) (fun D R=>e.rests=D++R) (fun D R=>R.length) [] e.rests ?_ rfl (fun D R hp2=>?_)
  ·show Le T _ (mkSt [(0, .arr 0 e.cuts.length),(4, .box 4 0),(5, .box 5 0),(98, .sl (e.rests.map bY)),(99,I e.rests.length),(100,I 0)] [(4,invC s),(5,iJ e)] [(0,⟨e.cuts.length, .own,42,F1.map nodeV⟩)])
   rw[<-hm2];exact zj
  cases R with
  |cons c R=>
   have hlen2:=aO hp2;have hlD:((D++[c]).length:Int)=(D.length:Int)+1:=Ae
   obtain⟨q1,q2⟩:=hR D (c::R) hp2;have h2:=bH9 s c.id hs;have h3:=stockNode_spec (bF5 s c.id) e.id (hz c.id)
   have h4:=addG_spec (restsN F1 s e.id D) (nodeOf (bF5 s c.id) e.id) q2 q1;have hsn:=restsN_snoc F1 s e.id D c
   generalize addN (restsN F1 s e.id D) (nodeOf (bF5 s c.id) e.id)=F3 at*;generalize nodeOf (bF5 s c.id) e.id=nn at*;generalize bF5 s c.id=pp at*;generalize (∃m∈s.stocks,sid m=c.id)=Q at*;generalize restsN F1 s e.id D=F2 at*
   repeat' ((conv=>whnf);first|(exfalso;omega)|refine zS ?_|refine zm (fun x hx=>?_)|refine zT ?_ ?_<;>intro _|fail)
   all_goals conv=>whnf
   refine⟨(D++[c],R),?_,Ee,Ae⟩;show Le T _ (folB s e (restsN F1 s e.id (D++[c])) e.cuts.length (D++[c]));rw[hsn];unfold folB;simp only[List.length_append,List.length_singleton,<-Nat.add_assoc];exact zj
  |nil=>
   have hlen2:e.rests.length=D.length:=Ee;have eD:e.rests=D:=Ee
   rw[eD];exact KP
theorem fol0_vc(f:List Node)(s:aJ)(e:Event)(h:FolOk f s e)(hk:e.kind≠1/\e.kind≠2/\e.kind≠5/\e.kind≠8):fnVC T Tryz.prog Tryz.f40 [.own 42 (f.map nodeV),invV s,aS e] (.own 42 ((followN f s e).map nodeV)):=by
 obtain⟨c1,c2⟩:=h.no hk.2.2.1;have hm1:(e.cuts.map dK).length=0:=by rw[c1];rfl
 have hm2:(e.rests.map bY).length=0:=by rw[c2];rfl
 have e1:followN f s e=f:=by
  unfold followN growN;rw[if_neg hk.1,if_neg hk.2.1,if_neg Aa,c1,c2];rfl
 rw[e1];clear e1 h c1 c2
 repeat' ((conv=>whnf);first|(exfalso;omega)|refine loop_0 ?_|refine zS ?_|refine zm (fun x hx=>?_)|refine zT ?_ ?_<;>intro _|fail)
 all_goals exact zE
theorem foldN_sorted{xs f:List Node}(h:SortN f)(h1:∀x∈xs,∀y∈f,y.id≠x.id)(h2:(xs.map Node.id).Pairwise (·≠·)):SortN (xs.foldl addN f)/\(xs.foldl addN f).length=f.length+xs.length/\∀y,y∈xs.foldl addN f↔y∈f\/y∈xs:=by
 have:=bE9 (key:=Node.id) h h1 h2;exact⟨this.1,this.2.2,this.2.1⟩
theorem cutsN_fold{s:aJ}:∀ {l:List Made} {f:List Node},cutsN f s l=(l.map fun c=>pieceN (bF0 s c.id) (bF0 s c.id).parent).foldl addN f
 | [],f=>rfl
 |c::l,f=>by unfold cutsN;rw[List.foldl_cons,List.map_cons,List.foldl_cons];exact cutsN_fold
theorem restsN_fold{s:aJ}{n:Int}:∀ {l:List Rest} {f:List Node},restsN f s n l=(l.map fun r=>nodeOf (bF5 s r.id) n).foldl addN f
 | [],f=>rfl
 |c::l,f=>by unfold restsN;rw[List.foldl_cons,List.map_cons,List.foldl_cons];exact restsN_fold
theorem fit_folds{f:List Node}{s:aJ}{e:Event}(h:FitN f s e)(hk:e.kind=5)(he:iY e){x:Node}(hx:f[bs Node.id f e.id]? =some x)(hl:f.length+e.cuts.length+e.rests.length<=1000000):
 (∀D R,e.cuts=D++R->SortN (cutsN (f.set (bs Node.id f e.id) (goneN x e.scrap)) s D)/\(cutsN (f.set (bs Node.id f e.id) (goneN x e.scrap)) s D).length<=1000000)/\
 ∀D R,e.rests=D++R->SortN (restsN (cutsN (f.set (bs Node.id f e.id) (goneN x e.scrap)) s e.cuts) s e.id D)/\(restsN (cutsN (f.set (bs Node.id f e.id) (goneN x e.scrap)) s e.cuts) s e.id D).length<=1000000:=by
 have hN:newI s e=e.cuts.map (fun c=>(bF0 s c.id).id)++e.rests.map fun r=>sid (bF5 s r.id):=by unfold newI;rw[if_neg (by omega),if_neg (by omega)]
 have hids:(f.set (bs Node.id f e.id) (goneN x e.scrap)).map Node.id=f.map Node.id:=bY6 hx rfl;have hso:SortN (f.set (bs Node.id f e.id) (goneN x e.scrap)):=by show(_:List Int).Pairwise _;rw[hids];exact h.so
 have hmem:∀y∈f.set (bs Node.id f e.id) (goneN x e.scrap),∀i∈newI s e,y.id≠i:=fun y hy i hi=>by
  have:y.id∈f.map Node.id:=by rw[<-hids];exact List.mem_map_of_mem hy
  obtain⟨z,hz,e2⟩:=List.mem_map.1 this;rw[<-e2];exact h.nw i hi z hz
 have hdf:=h.df;rw[hN]at hdf hmem;have hlen:(f.set (bs Node.id f e.id) (goneN x e.scrap)).length=f.length:=Ae
 generalize f.set (bs Node.id f e.id) (goneN x e.scrap)=F at*
 have cut:∀D R,e.cuts=D++R->SortN (cutsN F s D)/\(cutsN F s D).length=F.length+D.length/\∀y∈cutsN F s D,y∈F\/∃c∈D,y.id=(bF0 s c.id).id:=by
  intro D R hD;rw[cutsN_fold];have e2:(D.map fun c=>pieceN (bF0 s c.id) (bF0 s c.id).parent).map Node.id=D.map fun c=>(bF0 s c.id).id:=by rw[List.map_map];rfl
  obtain⟨q1,q2,q3⟩:=foldN_sorted (xs:=D.map fun c=>pieceN (bF0 s c.id) (bF0 s c.id).parent) hso (fun z hz y hy=>by
   obtain⟨c,hc,rfl⟩:=List.mem_map.1 hz
   exact hmem y hy _ (List.mem_append.2 (.inl (List.mem_map.2 ⟨c,by rw[hD];simp[hc],rfl⟩)))) (by
   rw[e2];have:=(List.pairwise_append.1 hdf).1;rw[hD,List.map_append]at this;exact(List.pairwise_append.1 this).1)
  refine⟨q1,by rw[q2,List.length_map],fun y hy=>?_⟩
  rcases(q3 y).1 hy with hy|hy
  ·exact .inl hy
  ·obtain⟨c,hc,rfl⟩:=List.mem_map.1 hy
   exact .inr ⟨c,hc,rfl⟩
 refine⟨fun D R hD=>?_,fun D R hD=>?_⟩
 ·obtain⟨q1,q2,_⟩:=cut D R hD
  have:=congrArg List.length hD;rw[List.length_append]at this;exact⟨q1,Aa⟩
 ·obtain⟨c1,c2,c3⟩:=cut e.cuts [] (List.append_nil _).symm
  rw[restsN_fold]
  have e2:(D.map fun r=>nodeOf (bF5 s r.id) e.id).map Node.id=D.map fun r=>sid (bF5 s r.id):=by
   rw[List.map_map];exact List.map_congr_left fun r _=>nodeOf_id _ _
  obtain⟨p1,p2,p3⟩:=List.pairwise_append.1 hdf
  obtain⟨q1,q2,q3⟩:=foldN_sorted (xs:=D.map fun r=>nodeOf (bF5 s r.id) e.id) c1 (fun z hz y hy=>by
   obtain⟨r,hr,rfl⟩:=List.mem_map.1 hz;rw[nodeOf_id];have hr':sid (bF5 s r.id)∈e.rests.map fun r=>sid (bF5 s r.id):=List.mem_map.2 ⟨r,by rw[hD];simp[hr],rfl⟩
   rcases c3 y hy with hy|⟨c,hc,e3⟩
   ·exact hmem y hy _ (List.mem_append.2 (.inr hr'))
   ·rw[e3]
    exact p3 _ (List.mem_map.2 ⟨c,hc,rfl⟩) _ hr') (by
   rw[e2];rw[hD,List.map_append]at p2;exact(List.pairwise_append.1 p2).1)
  have:=congrArg List.length hD;rw[List.length_append]at this;rw[List.length_map]at q2;exact⟨q1,Aa⟩
theorem follow_spec(f:List Node)(s:aJ)(e:Event)(h:FolOk f s e)(hf:FitN f s e)(hl:f.length+e.cuts.length+e.rests.length<=1000000):Sp 40 [.own 42 (f.map nodeV),invV s,aS e] (.own 42 ((followN f s e).map nodeV)):=by
 refine zsp Tryz.func40 ?_;by_cases h1:e.kind=1
 ·exact fol1_vc f s e h h1
 by_cases h2:e.kind=2
 ·exact fol2_vc f s e h h2
 by_cases h8:e.kind=8
 ·obtain⟨x,q1,q2⟩:=aB8 hf.so (hf.ex (.inl h8))
  exact fol8_vc f s e x h h8 q1
 by_cases h5:e.kind=5
 ·obtain⟨x,q1,q2⟩:=aB8 hf.so (hf.ex (.inr h5))
  obtain⟨a,b⟩:=fit_folds hf h5 h.ev q1 hl;exact fol5_vc f _ s e x h h5 q1 rfl a b
 exact fol0_vc f s e h ⟨h1,h2,h5,h8⟩
theorem find_sized{s:aJ}{n:Nat}(h:Ok s n)(i:Int):eY (bF5 s i):=by
 unfold bF5
 cases hg:s.stocks[fst (fun x=>sid x=i) s.stocks]? with
 |none=>exact⟨xZ,by simp[wS,bar0]⟩
 |some x=>exact h.sz x (fC hg)
theorem fol_ok{f:List Node}{s s':aJ}{e:Event}{n:Nat}(hs:Ok s n)(hs':Ok s' n)(hn:n<=1000000)(he:iY e)(h0:(appR s e).2=0)(hf:FitN f s' e):FolOk f s' e where
 so:=hf.so
 ln:=hf.ln
 ev:=he
 lp:=Nat.le_trans hs'.lp hn
 ls:=Nat.le_trans hs'.ls hn
 sz:=find_sized hs'
 sh:=fun hk=>aX9 ((aZ6 hs h0).1.2.2.2.1 hk).2
 no:=fun hk=>by
  have:=(aZ6 hs h0).1.2.2.1 hk;exact⟨List.eq_nil_of_length_eq_zero this.1,List.eq_nil_of_length_eq_zero this.2.1⟩
theorem addN_len(f:List Node)(x:Node):(addN f x).length=f.length+1:=mQ
theorem follow_len{f:List Node}{s:aJ}{e:Event}:(followN f s e).length<=f.length+more e:=by
 have c:∀(l:List Made) (f:List Node),(cutsN f s l).length=f.length+l.length:=by
  intro l
  induction l with
  |nil=>exact fun f=>rfl
  |cons c l ih=>intro f;unfold cutsN at ih⊢;rw[List.foldl_cons,ih,addN_len,List.length_cons];omega
 have r:∀(n:Int) (l:List Rest) (f:List Node),(restsN f s n l).length=f.length+l.length:=by
  intro n l
  induction l with
  |nil=>exact fun f=>rfl
  |cons c l ih=>intro f;unfold restsN at ih⊢;rw[List.foldl_cons,ih,addN_len,List.length_cons];omega
 have g:(goneAt f (bs Node.id f e.id) e).length=f.length:=by
  unfold goneAt;split
  ·rw[List.length_set]
  ·rfl
 unfold followN growN more
 repeat' split
 ·rw[addN_len];omega
 ·rw[addN_len];omega
 ·rw[r,c,g];omega
 ·rw[r,c];omega
theorem loop_4{T:Tab}{σ:St}{x:aA2}{Q:Exit->St->Prop}{A B C D:Type}(st:A->B->C->D->St)(inv:A->B->C->D->Prop)(m:A->B->C->D->Nat)(a0:A)(b0:B)(c0:C)(d0:D)(h0:Le T σ (st a0 b0 c0 d0))(h1:inv a0 b0 c0 d0)(h:∀a b c d,inv a b c d->x (st a b c d) fun e σ'=>match e with
 | .normal=>∃p':A×B×C×D,Le T σ' (st p'.1 p'.2.1 p'.2.2.1 p'.2.2.2)/\inv p'.1 p'.2.1 p'.2.2.1 p'.2.2.2/\m p'.1 p'.2.1 p'.2.2.1 p'.2.2.2<m a b c d
 |e=>Q e σ'):bI0 T x σ Q:=
 lD (A:=A×B×C×D) (fun p=>st p.1 p.2.1 p.2.2.1 p.2.2.2) (fun p=>inv p.1 p.2.1 p.2.2.1 p.2.2.2) (fun p=>m p.1 p.2.1 p.2.2.1 p.2.2.2) (a0,b0,c0,d0) h0 h1 (fun p hp=>h p.1 p.2.1 p.2.2.1 p.2.2.2 hp)
def bldSt(l:List Event)(s:aJ)(F:List Node)(D:List Event):St:=mkSt [(0, .sl (l.map aS)),(2, .arr 32 D.length),(3,I 0),(4,I 0),(5, .box 5 0),(10, .sl (l.map aS)),(11,I l.length),(12,I D.length)] [(5,invC s)] [(32,⟨D.length, .own,42,F.map nodeV⟩)]
theorem build_spec(l:List Event)(he:∀e∈l,iY e)(hb:moreL l<=1000000)(hl:l.length<=1000000)(hf:fitAll inv0 [] l):Sp 12 [.sl (l.map aS)] (.tup [.own 42 ((buildF inv0 [] 0 l).1.map nodeV),I (buildF inv0 [] 0 l).2.1,I (buildF inv0 [] 0 l).2.2]):=by
 refine zsp Tryz.func12 ?_;have hm:(l.map aS).length=l.length:=Ae;generalize hr:buildF inv0 [] 0 l=q
 repeat' ((conv=>whnf);first|(exfalso;omega)|refine zS ?_|refine zm (fun x hx=>?_)|refine zT ?_ ?_<;>intro _|fail)
 refine loop_4 (A:=aJ) (B:=List Node) (C:=List Event) (D:=List Event) (fun s F D R=>bldSt l s F D) (fun s F D R=>l=D++R/\buildF s F D.length R=q/\fitAll s F R/\∃n,Ok s n/\F.length<=n/\n+moreL R<=1000000) (fun s F D R=>R.length) inv0 [] [] l ?_ ⟨rfl,hr,hf,0,ok0,Nat.le_refl _,Aa⟩ (fun s F D R hp=>?_)
 ·show Le T _ (mkSt [(0, .sl (l.map aS)),(2, .arr 32 0),(3,I 0),(4,I 0),(5, .box 5 0),(10, .sl (l.map aS)),(11,I l.length),(12,I 0)] [(5,invC inv0)] [(32,⟨0, .own,42,[]⟩)])
  rw[<-hm];exact zj
 obtain⟨hp,hq,hft,n,hn,hFn,hnl⟩:=hp
 cases R with
 |nil=>
  have hlen:l.length=D.length:=Af;have e:q=(F,(D.length:Int),0):=by rw[<-hq];rfl
  rw[e]
  repeat' ((conv=>whnf);first|(exfalso;omega)|refine zS ?_|refine zm (fun x hx=>?_)|refine zT ?_ ?_<;>intro _|fail)
  all_goals conv=>whnf
  refine⟨_,rfl,?_⟩;rw[hm,hlen]
  (repeat' (first|exact trivial|refine And.intro ?_ ?_|with_reducible rfl|exact(fun h=>Ag)|exact rfl));done
 |cons e R=>
  have hlen:=aO hp;have em:moreL (e::R)=more e+moreL R:=by unfold moreL;simp
  have hez:=he e Af;have g:=kG hn (e:=e) Aa hez
  obtain⟨g1,g2⟩:=g;have hlD:((D++[e]).length:Int)=(D.length:Int)+1:=Ae;have hqq:buildF s F D.length (e::R)=if(appR s e).2=0 then buildF (appR s e).1 (followN F (appR s e).1 e) ((D.length:Int)+1) R else(F,(D.length:Int),(appR s e).2):=rfl
  have hff:fitAll s F (e::R)=((appR s e).2=0->FitN F (appR s e).1 e/\fitAll (appR s e).1 (followN F (appR s e).1 e) R):=rfl;rw[hqq]at hq;rw[hff]at hft;by_cases c:(appR s e).2=0
  ·rw[if_pos c]at hq
   have g3:=g2 c;obtain⟨f1,f2⟩:=hft c;have hme:more e=1+e.cuts.length+e.rests.length:=rfl
   have g4:=follow_spec F (appR s e).1 e (fol_ok (hn.mono Aa) (g3.mono (Nat.le_refl _)) Aa hez c f1) f1 Aa;have g5:= @follow_len F (appR s e).1 e
   rw[c]at g1;generalize followN F (appR s e).1 e=F2 at*;generalize appR s e=a at*
   repeat' ((conv=>whnf);first|(exfalso;omega)|refine zS ?_|refine zm (fun x hx=>?_)|refine zT ?_ ?_<;>intro _|fail)
   all_goals conv=>whnf
   refine⟨(a.1,F2,D++[e],R),?_,⟨Af,by rw[hlD];exact hq,f2,n+more e,g3,by show F2.length<=_;omega,by show n+more e+moreL R<=1000000;omega⟩,Ae⟩
   show Le T _ (bldSt l a.1 F2 (D++[e]));unfold bldSt;exact Ll
  ·rw[if_neg c]at hq
   subst hq;generalize appR s e=a at*;exact KP
theorem int_cells(l:List Int):∀y∈l.map I,y.cells.length=1:=fun y hy=>AU
theorem firstN_get{f:List Node}(hs:SortN f){y:Node}(hy:y∈f):∃i:Nat,firstN f y.id=i/\f[i]? =some y/\i<f.length:=by
 unfold firstN
 cases h:f.findIdx? (fun x=>decide (x.id=y.id))with
 |none=>
  have:=List.findIdx?_eq_none_iff.1 h y hy;simp at this
 |some i=>
  obtain⟨hi,h1,_⟩:=List.findIdx?_eq_some_iff_getElem.1 h;refine⟨i,rfl,?_,hi⟩;rw[List.getElem?_eq_getElem hi];have:f[i].id=y.id:=by simpa using h1
  rw[bB9 hs (List.getElem_mem hi) hy this]
abbrev ParE(f:List Node):Prop:=∀x∈f,x.parent≠0->∃p,getN f x.parent=some p
def rpSt(f:List Node)(j:Int)(D:List Int):St:=mkSt [(0, .sl (f.map nodeV)),(5, .sl (D.map I)),(6,I j)] [] []
def rpV(f:List Node)(x:Node):V:=if climbR f f.length x=true then .sl ((((chN f x).map Node.id).reverse).map I)else .lit (.slice none 0 0)
theorem rpath_spec(f:List Node)(x:Node)(hl:f.length<=1000000)(hs:SortN f)(hp:ParE f)(hx:x∈f):Sp 55 [.sl (f.map nodeV),I x.id] (rpV f x):=by
 refine zsp Tryz.func55 ?_;have hml:(f.map nodeV).length=f.length:=Ae;have hf:=rfind_spec f x.id hl
 generalize hR:rpV f x=r at*
 repeat' ((conv=>whnf);first|refine zS ?_|refine zm (fun x hx=>?_)|refine zT ?_ ?_<;>intro _|fail)
 refine loop_4 (A:=Node) (B:=List Node) (C:=List Int) (D:=Nat) (fun y pre D k=>rpSt f (firstN f y.id) D) (fun y pre D k=>y∈f/\D.length+k=f.length+1/\chN f x=pre++chainR f k y/\D=((pre++[y]).map Node.id).reverse/\climbR f k y=climbR f f.length x) (fun y pre D k=>k) x [] [x.id] f.length ?_ ⟨hx,A8,rfl,rfl,rfl⟩ (fun y pre D k hq=>?_)
 ·refine Le.trans (fB (k:=8) rfl (.inl rfl)) ?_
  show Le T _ (mkSt [(0, .sl (f.map nodeV)),(5, .sl [I x.id]),(6,I (firstN f x.id))] [] []);exact zj
 obtain⟨hy,hk,hc,hD,hcl⟩:=hq;obtain⟨i,hi,hg,hil⟩:=firstN_get hs hy;have hX:(D.map I).length=D.length:=Ae;by_cases h0:y.parent=0
 ·have hr:r= .sl (D.map I):=by
   rw[<-hR];unfold rpV
   have e1:climbR f k y=true:=by
    cases k with
    |zero=>unfold climbR;exact decide_eq_true h0
    |succ k=>unfold climbR;rw[if_pos h0]
   have e2:chainR f k y=[y] :=by
    cases k with
    |zero=>rfl
    |succ k=>unfold chainR;rw[if_pos h0]
   rw[if_pos (hcl.symm.trans e1),hc,e2,hD]
  rw[hr];unfold rpSt;rw[hi];exact KP
 ·obtain⟨p,hpg⟩:=hp y hy h0
  obtain⟨hpm,hpi⟩:=getN_mem hpg;have hf2:=rfind_spec f y.parent hl;unfold rpSt;rw[hi]
  cases k with
  |zero=>
   have hr:r= .lit (.slice none 0 0):=by
    rw[<-hR];unfold rpV;rw[if_neg];rw[<-hcl];unfold climbR;simpa using h0
   rw[hr]
   repeat' ((conv=>whnf);first|(exfalso;omega)|(exfalso;contradiction)|refine zS ?_|refine zm (fun x hx=>?_)|refine zT ?_ ?_<;>intro _|fail)
   all_goals exact zE
  |succ k=>
   have e1:climbR f (k+1) y=climbR f k p:=climb_some h0 hpg
   have e2:chainR f (k+1) y=y::chainR f k p:=by
    conv=>lhs;unfold chainR
    rw[if_neg h0,hpg]
   repeat' ((conv=>whnf);first|(exfalso;omega)|(exfalso;contradiction)|refine iH rfl (.inl rfl) rfl (of_decide_eq_true rfl) (int_cells _) (show 1+(D.map I).length<=1000000000 from Aa) ?_|refine zS ?_|refine zm (fun x hx=>?_)|refine zT ?_ ?_<;>intro _|fail)
   all_goals conv=>whnf
   refine⟨(p,pre++[y],y.parent::D,k),?_,⟨hpm,A8,by rw[hc,e2];simp,by rw[hD];simp[hpi],by rw[<-e1];exact hcl⟩,by show k<k+1;omega⟩
   refine Le.trans (fB (k:=39) rfl (.inl rfl)) ?_;show Le T _ (mkSt [(0, .sl (f.map nodeV)),(5, .sl (I y.parent::D.map I)),(6,I (firstN f p.id))] [] []);rw[hpi];exact zj
end Go.Proofs.Led
